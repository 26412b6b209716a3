/- The law MeasureSplits. The law MeasureSplits, plainly. -/
import Derived.Test.YtpbkelpokpglaaaGreatQq
import Derived.Test.YtpbkelpokpglaaaGreatQx
set_option linter.all false
namespace Go.Proofs.YtpbkelpokpglaaaGreat
section
open Go Go.RowKit
set_option maxRecDepth 100000
noncomputable def cfgIn_ (v : Int) (lo : Int) (hi : Int) : Option ((Bool × Unit) × (Unit)) :=
 if lo ≤ v then
  some ((decide (v ≤ hi), ()), (()))
 else
 some ((false, ()), (()))
noncomputable abbrev cfgIn__k : Con SR1 := ⟨147, [.sh sI_, .sh sI_, .sh sI_], [.sh .b], fun x => cfgIn_ x.1 x.2.1 x.2.2.1⟩
theorem cfgIn__ok : CO Tryz.prog cfgIn__k := co_fn mixed Tryz.func147 [] trivial [] trivial (fun _ => []) [] fun x => by kernel_rfl
noncomputable def cfgNumbers (c : Cfg) : Option ((Bool × Unit) × (Unit)) :=
 (cfgIn_ c.workers 1 16).bind fun r1 =>
 if r1.1.1 = true then
  (cfgIn_ c.levels 1 64).bind fun r2 =>
  if r2.1.1 = true then
   (cfgIn_ c.classes 1 (if c.levels < 8 then c.levels else 8)).bind fun r3 =>
   if r3.1.1 = true then
    (cfgIn_ c.tasks 1 256).bind fun r4 =>
    if r4.1.1 = true then
     (cfgIn_ c.deque 1 64).bind fun r5 =>
     if r5.1.1 = true then
      (cfgIn_ c.heap 1 64).bind fun r6 =>
      if r6.1.1 = true then
       (cfgIn_ c.batch 1 c.deque).bind fun r7 =>
       if r7.1.1 = true then
        (cfgIn_ c.age 0 65536).bind fun r8 =>
        if r8.1.1 = true then
         (cfgIn_ c.patience 1 65536).bind fun r9 =>
         some ((r9.1.1, ()), (()))
        else
        some ((false, ()), (()))
       else
       some ((false, ()), (()))
      else
      some ((false, ()), (()))
     else
     some ((false, ()), (()))
    else
    some ((false, ()), (()))
   else
   some ((false, ()), (()))
  else
  some ((false, ()), (()))
 else
 some ((false, ()), (()))
noncomputable abbrev cfgNumbers_k : Con SR1 := ⟨89, [.val 13], [.sh .b], fun x => cfgNumbers x.1⟩
theorem cfgNumbers_ok : CO Tryz.prog cfgNumbers_k := co_fn mixed Tryz.func89 [cfgIn__k] ⟨cfgIn__ok, trivial⟩ [] trivial (fun _ => []) [] fun x => by kernel_rfl
noncomputable def cfgValid (c : Cfg) (i : Ins) : Option ((Bool × Unit) × (Unit)) :=
 if i.op = 0 then
  (cfgIn_ i.a 1 64).bind fun r1 =>
  if r1.1.1 = true then
   some ((decide (i.b = 0), ()), (()))
  else
  some ((false, ()), (()))
 else
 if i.op = 1 then
  (cfgIn_ i.a 0 (wi (((c.progs.length : Nat) : Int) - 1))).bind fun r2 =>
  if r2.1.1 = true then
   (cfgIn_ i.b 0 (wi (c.levels - 1))).bind fun r3 =>
   some ((r3.1.1, ()), (()))
  else
  some ((false, ()), (()))
 else
 if i.op = 2 then
  (cfgIn_ i.a 0 31).bind fun r4 =>
  if r4.1.1 = true then
   some ((decide (i.b = 0), ()), (()))
  else
  some ((false, ()), (()))
 else
 some ((false, ()), (()))
noncomputable abbrev cfgValid_k : Con SR1 := ⟨148, [.val 13, .val 3], [.sh .b], fun x => cfgValid x.1 x.2.1⟩
theorem cfgValid_ok : CO Tryz.prog cfgValid_k := co_fn mixed Tryz.func148 [cfgIn__k] ⟨cfgIn__ok, trivial⟩ [] trivial (fun _ => []) [] fun x => by kernel_rfl
noncomputable def cfgPrograms (c : Cfg) : Option ((Int × Unit) × (Unit)) :=
 (cfgIn_ ((c.progs.length : Nat) : Int) 1 32).bind fun r1 =>
 if (!r1.1.1) = true then
  some ((2, ()), (()))
 else
 (lpF (σ := Int × Unit) (β := (Int × Unit) ⊕ ((Int × Unit) × (Unit))) (fun self4 x2 =>
  if x2.1 < ((c.progs.length : Nat) : Int) then
   if 0 ≤ x2.1 ∧ x2.1 < ((c.progs.length : Nat) : Int) then
    if 32 < (((atL [] c.progs x2.1).length : Nat) : Int) then
     Option.map Sum.inr (
      some ((2, ()), (()))
     )
    else
    (lpF (σ := Int × Unit) (β := (Int × Unit) ⊕ ((Int × Unit) ⊕ ((Int × Unit) × (Unit)))) (fun self7 x5 =>
     if x5.1 < (((atL [] c.progs x2.1).length : Nat) : Int) then
      if 0 ≤ x5.1 ∧ x5.1 < (((atL [] c.progs x2.1).length : Nat) : Int) then
       (cfgValid c (atK3 (atL [] c.progs x2.1) x5.1)).bind fun r8 =>
       if (!r8.1.1) = true then
        Option.map Sum.inr (
         Option.map Sum.inr (
          some ((1, ()), (()))
         )
        )
       else
       self7 (wi (x5.1 + 1), ())
      else none
     else
     some (Sum.inl (x5.1, ()))
    ) 18446744073709551616 (0, ())).bind fun z6 => match z6 with
    | .inr o9 => some o9
    | .inl z6 =>
    self4 (wi (x2.1 + 1), ())
   else none
  else
  some (Sum.inl (x2.1, ()))
 ) 18446744073709551616 (0, ())).bind fun z3 => match z3 with
 | .inr o10 => some o10
 | .inl z3 =>
 some ((0, ()), (()))
noncomputable abbrev cfgPrograms_k : Con SR1 := ⟨90, [.val 13], [.sh sI_], fun x => cfgPrograms x.1⟩
theorem cfgPrograms_ok : CO Tryz.prog cfgPrograms_k := co_fn mixed Tryz.func90 [cfgIn__k, cfgValid_k] ⟨cfgIn__ok, cfgValid_ok, trivial⟩ [] trivial (fun _ => []) [(4, .loopR [.rg 15 sI_] 18446744073709551616 0), (9, .loopR [.rg 24 sI_] 18446744073709551616 2)] fun x => by kernel_rfl
noncomputable def cfgSubmissions (c : Cfg) : Option ((Int × Unit) × (Unit)) :=
 if 64 < ((c.subs.length : Nat) : Int) then
  some ((2, ()), (()))
 else
 (lpF (σ := Int × Unit) (β := (Int × Unit) ⊕ ((Int × Unit) × (Unit))) (fun self3 x1 =>
  if x1.1 < ((c.subs.length : Nat) : Int) then
   if 0 ≤ x1.1 ∧ x1.1 < ((c.subs.length : Nat) : Int) then
    (cfgIn_ ((atK4 c.subs x1.1).prog) 0 (wi (((c.progs.length : Nat) : Int) - 1))).bind fun r4 =>
    if (!r4.1.1) = true then
     Option.map Sum.inr (
      some ((3, ()), (()))
     )
    else
    (cfgIn_ ((atK4 c.subs x1.1).level) 0 (wi (c.levels - 1))).bind fun r5 =>
    if (!r5.1.1) = true then
     Option.map Sum.inr (
      some ((1, ()), (()))
     )
    else
    (cfgIn_ ((atK4 c.subs x1.1).deadline) 0 16777215).bind fun r6 =>
    if (!r6.1.1) = true then
     Option.map Sum.inr (
      some ((1, ()), (()))
     )
    else
    self3 (wi (x1.1 + 1), ())
   else none
  else
  some (Sum.inl (x1.1, ()))
 ) 18446744073709551616 (0, ())).bind fun z2 => match z2 with
 | .inr o7 => some o7
 | .inl z2 =>
 some ((0, ()), (()))
noncomputable abbrev cfgSubmissions_k : Con SR1 := ⟨91, [.val 13], [.sh sI_], fun x => cfgSubmissions x.1⟩
theorem cfgSubmissions_ok : CO Tryz.prog cfgSubmissions_k := co_fn mixed Tryz.func91 [cfgIn__k] ⟨cfgIn__ok, trivial⟩ [] trivial (fun _ => []) [(4, .loopR [.rg 12 sI_] 18446744073709551616 0)] fun x => by kernel_rfl
noncomputable def cfgCheck (c : Cfg) : Option ((Int × Unit) × (Unit)) :=
 (cfgNumbers c).bind fun r1 =>
 if (!r1.1.1) = true then
  some ((1, ()), (()))
 else
 (cfgPrograms c).bind fun r2 =>
 if r2.1.1 ≠ 0 then
  some ((r2.1.1, ()), (()))
 else
 (cfgSubmissions c).bind fun r3 =>
 some ((r3.1.1, ()), (()))
noncomputable abbrev cfgCheck_k : Con SR1 := ⟨63, [.val 13], [.sh sI_], fun x => cfgCheck x.1⟩
theorem cfgCheck_ok : CO Tryz.prog cfgCheck_k := co_fn mixed Tryz.func63 [cfgNumbers_k, cfgPrograms_k, cfgSubmissions_k] ⟨cfgNumbers_ok, cfgPrograms_ok, cfgSubmissions_ok, trivial⟩ [] trivial (fun _ => []) [] fun x => by kernel_rfl
noncomputable def meCheck (c : Cfg) (l : List St) : Option ((Int × Unit) × (Unit)) :=
 (cfgCheck c).bind fun r1 =>
 if r1.1.1 ≠ 0 then
  some ((r1.1.1, ()), (()))
 else
 (lpF (σ := Int × Unit) (β := (Int × Unit) ⊕ ((Int × Unit) × (Unit))) (fun self4 x2 =>
  if x2.1 < ((l.length : Nat) : Int) then
   if 0 ≤ x2.1 ∧ x2.1 < ((l.length : Nat) : Int) then
    if ((atK6 l x2.1).at_) < 0 then
     Option.map Sum.inr (
      some ((1, ()), (()))
     )
    else
    if 1099511627776 < ((atK6 l x2.1).at_) then
     Option.map Sum.inr (
      some ((1, ()), (()))
     )
    else
    self4 (wi (x2.1 + 1), ())
   else none
  else
  some (Sum.inl (x2.1, ()))
 ) 18446744073709551616 (0, ())).bind fun z3 => match z3 with
 | .inr o5 => some o5
 | .inl z3 =>
 (lpF (σ := Int × Unit) (β := (Int × Unit) ⊕ ((Int × Unit) × (Unit))) (fun self8 x6 =>
  if x6.1 < ((l.length : Nat) : Int) then
   if 0 ≤ x6.1 ∧ x6.1 < ((l.length : Nat) : Int) then
    if 0 ≤ wi (x6.1 - 1) ∧ wi (x6.1 - 1) < ((l.length : Nat) : Int) then
     if ((atK6 l x6.1).at_) < ((atK6 l (wi (x6.1 - 1))).at_) then
      Option.map Sum.inr (
       some ((5, ()), (()))
      )
     else
     self8 (wi (x6.1 + 1), ())
    else none
   else none
  else
  some (Sum.inl (x6.1, ()))
 ) 18446744073709551616 (1, ())).bind fun z7 => match z7 with
 | .inr o9 => some o9
 | .inl z7 =>
 some ((0, ()), (()))
noncomputable abbrev meCheck_k : Con SR1 := ⟨38, [.val 13, .sh (.ro 6)], [.sh sI_], fun x => meCheck x.1 x.2.1⟩
theorem meCheck_ok : CO Tryz.prog meCheck_k := co_fn mixed Tryz.func38 [cfgCheck_k] ⟨cfgCheck_ok, trivial⟩ [] trivial (fun _ => []) [(5, .loopR [.rg 16 sI_] 18446744073709551616 0), (11, .loopR [.rg 8 sI_] 18446744073709551616 2)] fun x => by kernel_rfl
noncomputable def meShares (c : Cfg) (l : List St) : Option ((List Int × Int × Unit) × (Unit)) :=
 (meCheck c l).bind fun r1 =>
 if r1.1.1 ≠ 0 then
  some (([], r1.1.1, ()), (()))
 else
 if c.workers = c.workers then
  if 0 ≤ c.workers ∧ c.workers ≤ 1099511627776 then
   (lpF (σ := Int × List Int × Unit) (β := Int × List Int × Unit) (fun self4 x2 =>
    if x2.1 < ((l.length : Nat) : Int) then
     if 0 ≤ x2.1 ∧ x2.1 < ((l.length : Nat) : Int) then
      if ((atK6 l x2.1).ev.kind) = 5 then
       if 0 ≤ ((atK6 l x2.1).ev.worker) then
        if ((atK6 l x2.1).ev.worker) < c.workers then
         if 0 ≤ (atK6 l x2.1).ev.worker ∧ (atK6 l x2.1).ev.worker < ((x2.2.1.length : Nat) : Int) then
          if 0 ≤ (atK6 l x2.1).ev.worker ∧ (atK6 l x2.1).ev.worker < ((x2.2.1.length : Nat) : Int) then
           self4 (wi (x2.1 + 1), x2.2.1.set ((atK6 l x2.1).ev.worker).toNat (wi ((atK1 x2.2.1 ((atK6 l x2.1).ev.worker)) + 1)), ())
          else none
         else none
        else
        self4 (wi (x2.1 + 1), x2.2.1, ())
       else
       self4 (wi (x2.1 + 1), x2.2.1, ())
      else
      if ((atK6 l x2.1).ev.kind) = 9 then
       if 0 ≤ ((atK6 l x2.1).ev.worker) then
        if ((atK6 l x2.1).ev.worker) < c.workers then
         if 0 ≤ (atK6 l x2.1).ev.worker ∧ (atK6 l x2.1).ev.worker < ((x2.2.1.length : Nat) : Int) then
          if 0 ≤ (atK6 l x2.1).ev.worker ∧ (atK6 l x2.1).ev.worker < ((x2.2.1.length : Nat) : Int) then
           self4 (wi (x2.1 + 1), x2.2.1.set ((atK6 l x2.1).ev.worker).toNat (wi ((atK1 x2.2.1 ((atK6 l x2.1).ev.worker)) + 1)), ())
          else none
         else none
        else
        self4 (wi (x2.1 + 1), x2.2.1, ())
       else
       self4 (wi (x2.1 + 1), x2.2.1, ())
      else
      self4 (wi (x2.1 + 1), x2.2.1, ())
     else none
    else
    some (x2.1, x2.2.1, ())
   ) 18446744073709551616 (0, List.replicate (c.workers : Int).toNat (0 : Int), ())).bind fun z3 =>
   some ((z3.2.1, 0, ()), (()))
  else none
 else none
noncomputable abbrev meShares_k : Con SR1 := ⟨31, [.val 13, .sh (.ro 6)], [.sh (.row 1), .sh sI_], fun x => meShares x.1 x.2.1⟩
theorem meShares_ok : CO Tryz.prog meShares_k := co_fn mixed Tryz.func31 [meCheck_k] ⟨meCheck_ok, trivial⟩ [] trivial (fun _ => []) [(6, .loop [.rg 22 sI_, .rg 7 (.row 1)] 18446744073709551616 0)] fun x => by kernel_rfl
noncomputable def meGreatest (l : List Int) : Option ((Int × Unit) × (Unit)) :=
 (lpF (σ := Int × Int × Unit) (β := Int × Int × Unit) (fun self3 x1 =>
  if x1.2.1 < ((l.length : Nat) : Int) then
   if 0 ≤ x1.2.1 ∧ x1.2.1 < ((l.length : Nat) : Int) then
    if 0 ≤ x1.1 ∧ x1.1 < ((l.length : Nat) : Int) then
     if (atK1 l x1.1) < (atK1 l x1.2.1) then
      self3 (x1.2.1, wi (x1.2.1 + 1), ())
     else
     self3 (x1.1, wi (x1.2.1 + 1), ())
    else none
   else none
  else
  some (x1.1, x1.2.1, ())
 ) 18446744073709551616 (0, 0, ())).bind fun z2 =>
 some ((z2.1, ()), (()))
noncomputable abbrev meGreatest_k : Con SR1 := ⟨59, [.sh (.ro 1)], [.sh sI_], fun x => meGreatest x.1⟩
theorem meGreatest_ok : CO Tryz.prog meGreatest_k := co_fn mixed Tryz.func59 [] trivial [] trivial (fun _ => []) [(3, .loop [.rg 3 sI_, .rg 8 sI_] 18446744073709551616 0)] fun x => by kernel_rfl
noncomputable def meBusiest (c : Cfg) (l : List St) : Option ((Int × Int × Unit) × (Unit)) :=
 (meShares c l).bind fun r1 =>
 if r1.1.2.1 ≠ 0 then
  some ((0, r1.1.2.1, ()), (()))
 else
 (meGreatest r1.1.1).bind fun r2 =>
 some ((r2.1.1, 0, ()), (()))
noncomputable abbrev meBusiest_k : Con SR1 := ⟨32, [.val 13, .sh (.ro 6)], [.sh sI_, .sh sI_], fun x => meBusiest x.1 x.2.1⟩
theorem meBusiest_ok : CO Tryz.prog meBusiest_k := co_fn mixed Tryz.func32 [meShares_k, meGreatest_k] ⟨meShares_ok, meGreatest_ok, trivial⟩ [] trivial (fun _ => []) [] fun x => by kernel_rfl
noncomputable def r28ints (a : List Int) (b : List Int) : Option ((Bool × Unit) × (Unit)) :=
 if ((a.length : Nat) : Int) ≠ ((b.length : Nat) : Int) then
  some ((false, ()), (()))
 else
 (lpF (σ := Int × Unit) (β := (Int × Unit) ⊕ ((Bool × Unit) × (Unit))) (fun self3 x1 =>
  if x1.1 < ((a.length : Nat) : Int) then
   if 0 ≤ x1.1 ∧ x1.1 < ((a.length : Nat) : Int) then
    if 0 ≤ x1.1 ∧ x1.1 < ((b.length : Nat) : Int) then
     if (atK1 a x1.1) ≠ (atK1 b x1.1) then
      Option.map Sum.inr (
       some ((false, ()), (()))
      )
     else
     self3 (wi (x1.1 + 1), ())
    else none
   else none
  else
  some (Sum.inl (x1.1, ()))
 ) 18446744073709551616 (0, ())).bind fun z2 => match z2 with
 | .inr o4 => some o4
 | .inl z2 =>
 some ((true, ()), (()))
noncomputable abbrev r28ints_k : Con SR1 := ⟨33, [.sh (.ro 1), .sh (.ro 1)], [.sh .b], fun x => r28ints x.1 x.2.1⟩
theorem r28ints_ok : CO Tryz.prog r28ints_k := co_fn mixed Tryz.func33 [] trivial [] trivial (fun _ => []) [(4, .loopR [.rg 5 sI_] 18446744073709551616 0)] fun x => by kernel_rfl
noncomputable def awake35  : Option ((Bool × Unit) × (Unit)) :=
 (kconfig ([0, 0, 0, 3])).bind fun r1 =>
 (meOf r1.1.1 ([(⟨5, ⟨3, 0, 1, 0, 0⟩⟩ : St), (⟨9, ⟨5, 0, 1, 0, 0⟩⟩ : St)])).bind fun r2 =>
 (meShares r1.1.1 ([(⟨5, ⟨3, 0, 1, 0, 0⟩⟩ : St), (⟨9, ⟨5, 0, 1, 0, 0⟩⟩ : St)])).bind fun r3 =>
 (meBusiest r1.1.1 ([(⟨5, ⟨3, 0, 1, 0, 0⟩⟩ : St), (⟨9, ⟨5, 0, 1, 0, 0⟩⟩ : St)])).bind fun r4 =>
 if r2.1.2.1 = 0 then
  if r2.1.1.acc = 0 ∧ r2.1.1.rej = 0 ∧ r2.1.1.spa = 1 ∧ r2.1.1.ref = 0 ∧ r2.1.1.sta = 1 ∧ r2.1.1.fin = 0 ∧ r2.1.1.ste = 0 ∧ r2.1.1.ski = 0 ∧ r2.1.1.boo = 0 ∧ r2.1.1.age = 0 ∧ r2.1.1.par = 0 ∧ r2.1.1.lat = 4 ∧ r2.1.1.wor = 4 ∧ True then
   if r3.1.2.1 = 0 then
    (r28ints r3.1.1 ([1])).bind fun r5 =>
    if r5.1.1 = true then
     if r4.1.2.1 = 0 then
      some ((decide (r4.1.1 = 0), ()), (()))
     else
     some ((false, ()), (()))
    else
    some ((false, ()), (()))
   else
   some ((false, ()), (()))
  else
  some ((false, ()), (()))
 else
 some ((false, ()), (()))
noncomputable abbrev awake35_k : Con SR1 := ⟨14, [], [.sh .b], fun x => awake35 ⟩
theorem awake35_ok : CO Tryz.prog awake35_k := co_fn mixed Tryz.func14 [kconfig_k, meOf_k, meShares_k, meBusiest_k, r28ints_k] ⟨kconfig_ok, meOf_ok, meShares_ok, meBusiest_ok, r28ints_ok, trivial⟩ [] trivial (fun _ => []) [] fun x => by kernel_rfl
noncomputable def lawSplits (b : List Int) (s : List Int) (raw : List Int) (cut : Int) : Option ((Bool × Unit) × (Unit)) :=
 (kshort b ([raw])).bind fun r1 =>
 if (!r1.1.1) = true then
  some ((true, ()), (()))
 else
 if 600 < ((s.length : Nat) : Int) then
  some ((true, ()), (()))
 else
 (kconfig b).bind fun r2 =>
 (r28new r2.1.1).bind fun r3 =>
 (koffers r2.1.1).bind fun r4 =>
 (kscript s 300).bind fun r5 =>
 if (((r4.1.1.length + r5.1.1.length : Nat)) : Int) < 1000000000000 then
  (r28run r3.1.1 (r4.1.1 ++ r5.1.1)).bind fun r6 =>
  (r28events r6.2.1).bind fun r7 =>
  (knumber ([cut]) 0 (wi (((r7.1.1.length : Nat) : Int) + 1))).bind fun r8 =>
  (meOf r2.1.1 r7.1.1).bind fun r9 =>
  ((
   agr (
    if 0 ≤ r8.1.1 ∧ r8.1.1 ≤ ((r7.1.1.length : Nat) : Int) then
     if r2.1.1.workers = r2.1.1.workers then
      if r2.1.1.levels = r2.1.1.levels then
       if r2.1.1.classes = r2.1.1.classes then
        if r2.1.1.tasks = r2.1.1.tasks then
         if r2.1.1.deque = r2.1.1.deque then
          if r2.1.1.heap = r2.1.1.heap then
           if r2.1.1.batch = r2.1.1.batch then
            if r2.1.1.age = r2.1.1.age then
             if r2.1.1.patience = r2.1.1.patience then
              agr (
               (meOf r2.1.1 (r7.1.1.take (r8.1.1 : Int).toNat)).bind fun r12 =>
               if r2.1.1.workers = r2.1.1.workers then
                if r2.1.1.levels = r2.1.1.levels then
                 if r2.1.1.classes = r2.1.1.classes then
                  if r2.1.1.tasks = r2.1.1.tasks then
                   if r2.1.1.deque = r2.1.1.deque then
                    if r2.1.1.heap = r2.1.1.heap then
                     if r2.1.1.batch = r2.1.1.batch then
                      if r2.1.1.age = r2.1.1.age then
                       if r2.1.1.patience = r2.1.1.patience then
                        some (r12.1.1, r12.1.2.1, ())
                       else none
                      else none
                     else none
                    else none
                   else none
                  else none
                 else none
                else none
               else none
              ) (
               if r2.1.1.workers = r2.1.1.workers then
                if r2.1.1.levels = r2.1.1.levels then
                 if r2.1.1.classes = r2.1.1.classes then
                  if r2.1.1.tasks = r2.1.1.tasks then
                   if r2.1.1.deque = r2.1.1.deque then
                    if r2.1.1.heap = r2.1.1.heap then
                     if r2.1.1.batch = r2.1.1.batch then
                      if r2.1.1.age = r2.1.1.age then
                       if r2.1.1.patience = r2.1.1.patience then
                        (meOf r2.1.1 (r7.1.1.take (r8.1.1 : Int).toNat)).bind fun r11 =>
                        some (r11.1.1, r11.1.2.1, ())
                       else none
                      else none
                     else none
                    else none
                   else none
                  else none
                 else none
                else none
               else none
              )
             else none
            else none
           else none
          else none
         else none
        else none
       else none
      else none
     else none
    else none
   ) (
    if r2.1.1.workers = r2.1.1.workers then
     if r2.1.1.levels = r2.1.1.levels then
      if r2.1.1.classes = r2.1.1.classes then
       if r2.1.1.tasks = r2.1.1.tasks then
        if r2.1.1.deque = r2.1.1.deque then
         if r2.1.1.heap = r2.1.1.heap then
          if r2.1.1.batch = r2.1.1.batch then
           if r2.1.1.age = r2.1.1.age then
            if r2.1.1.patience = r2.1.1.patience then
             if 0 ≤ r8.1.1 ∧ r8.1.1 ≤ ((r7.1.1.length : Nat) : Int) then
              if r2.1.1.workers = r2.1.1.workers then
               if r2.1.1.levels = r2.1.1.levels then
                if r2.1.1.classes = r2.1.1.classes then
                 if r2.1.1.tasks = r2.1.1.tasks then
                  if r2.1.1.deque = r2.1.1.deque then
                   if r2.1.1.heap = r2.1.1.heap then
                    if r2.1.1.batch = r2.1.1.batch then
                     if r2.1.1.age = r2.1.1.age then
                      if r2.1.1.patience = r2.1.1.patience then
                       (meOf r2.1.1 (r7.1.1.take (r8.1.1 : Int).toNat)).bind fun r10 =>
                       some (r10.1.1, r10.1.2.1, ())
                      else none
                     else none
                    else none
                   else none
                  else none
                 else none
                else none
               else none
              else none
             else none
            else none
           else none
          else none
         else none
        else none
       else none
      else none
     else none
    else none
   )
  ) : Option (FgV × Int × Unit)).bind fun z13 =>
  ((
   agr (
    if 0 ≤ r8.1.1 ∧ r8.1.1 ≤ ((r7.1.1.length : Nat) : Int) then
     if r2.1.1.workers = r2.1.1.workers then
      if r2.1.1.levels = r2.1.1.levels then
       if r2.1.1.classes = r2.1.1.classes then
        if r2.1.1.tasks = r2.1.1.tasks then
         if r2.1.1.deque = r2.1.1.deque then
          if r2.1.1.heap = r2.1.1.heap then
           if r2.1.1.batch = r2.1.1.batch then
            if r2.1.1.age = r2.1.1.age then
             if r2.1.1.patience = r2.1.1.patience then
              agr (
               (meOf r2.1.1 (r7.1.1.drop (r8.1.1 : Int).toNat)).bind fun r16 =>
               if r2.1.1.workers = r2.1.1.workers then
                if r2.1.1.levels = r2.1.1.levels then
                 if r2.1.1.classes = r2.1.1.classes then
                  if r2.1.1.tasks = r2.1.1.tasks then
                   if r2.1.1.deque = r2.1.1.deque then
                    if r2.1.1.heap = r2.1.1.heap then
                     if r2.1.1.batch = r2.1.1.batch then
                      if r2.1.1.age = r2.1.1.age then
                       if r2.1.1.patience = r2.1.1.patience then
                        some (r16.1.1, r16.1.2.1, ())
                       else none
                      else none
                     else none
                    else none
                   else none
                  else none
                 else none
                else none
               else none
              ) (
               if r2.1.1.workers = r2.1.1.workers then
                if r2.1.1.levels = r2.1.1.levels then
                 if r2.1.1.classes = r2.1.1.classes then
                  if r2.1.1.tasks = r2.1.1.tasks then
                   if r2.1.1.deque = r2.1.1.deque then
                    if r2.1.1.heap = r2.1.1.heap then
                     if r2.1.1.batch = r2.1.1.batch then
                      if r2.1.1.age = r2.1.1.age then
                       if r2.1.1.patience = r2.1.1.patience then
                        (meOf r2.1.1 (r7.1.1.drop (r8.1.1 : Int).toNat)).bind fun r15 =>
                        some (r15.1.1, r15.1.2.1, ())
                       else none
                      else none
                     else none
                    else none
                   else none
                  else none
                 else none
                else none
               else none
              )
             else none
            else none
           else none
          else none
         else none
        else none
       else none
      else none
     else none
    else none
   ) (
    if r2.1.1.workers = r2.1.1.workers then
     if r2.1.1.levels = r2.1.1.levels then
      if r2.1.1.classes = r2.1.1.classes then
       if r2.1.1.tasks = r2.1.1.tasks then
        if r2.1.1.deque = r2.1.1.deque then
         if r2.1.1.heap = r2.1.1.heap then
          if r2.1.1.batch = r2.1.1.batch then
           if r2.1.1.age = r2.1.1.age then
            if r2.1.1.patience = r2.1.1.patience then
             if 0 ≤ r8.1.1 ∧ r8.1.1 ≤ ((r7.1.1.length : Nat) : Int) then
              if r2.1.1.workers = r2.1.1.workers then
               if r2.1.1.levels = r2.1.1.levels then
                if r2.1.1.classes = r2.1.1.classes then
                 if r2.1.1.tasks = r2.1.1.tasks then
                  if r2.1.1.deque = r2.1.1.deque then
                   if r2.1.1.heap = r2.1.1.heap then
                    if r2.1.1.batch = r2.1.1.batch then
                     if r2.1.1.age = r2.1.1.age then
                      if r2.1.1.patience = r2.1.1.patience then
                       (meOf r2.1.1 (r7.1.1.drop (r8.1.1 : Int).toNat)).bind fun r14 =>
                       some (r14.1.1, r14.1.2.1, ())
                      else none
                     else none
                    else none
                   else none
                  else none
                 else none
                else none
               else none
              else none
             else none
            else none
           else none
          else none
         else none
        else none
       else none
      else none
     else none
    else none
   )
  ) : Option (FgV × Int × Unit)).bind fun z17 =>
  (awake35).bind fun r18 =>
  if (!r18.1.1) = true then
   some ((false, ()), (()))
  else
  if r9.1.2.1 ≠ 0 then
   some ((false, ()), (()))
  else
  if z13.2.1 ≠ 0 then
   some ((false, ()), (()))
  else
  if z17.2.1 ≠ 0 then
   some ((false, ()), (()))
  else
  if r9.1.1.acc = (wi (z13.1.acc + z17.1.acc)) then
   if r9.1.1.rej = (wi (z13.1.rej + z17.1.rej)) then
    if r9.1.1.spa = (wi (z13.1.spa + z17.1.spa)) then
     if r9.1.1.ref = (wi (z13.1.ref + z17.1.ref)) then
      if r9.1.1.sta = (wi (z13.1.sta + z17.1.sta)) then
       if r9.1.1.fin = (wi (z13.1.fin + z17.1.fin)) then
        if r9.1.1.ste = (wi (z13.1.ste + z17.1.ste)) then
         if r9.1.1.ski = (wi (z13.1.ski + z17.1.ski)) then
          if r9.1.1.boo = (wi (z13.1.boo + z17.1.boo)) then
           if r9.1.1.age = (wi (z13.1.age + z17.1.age)) then
            if r9.1.1.par = (wi (z13.1.par + z17.1.par)) then
             if (wi (z13.1.lat + z17.1.lat)) ≤ r9.1.1.lat then
              some ((decide ((if z13.1.wor < z17.1.wor then z17.1.wor else z13.1.wor) ≤ r9.1.1.wor), ()), (()))
             else
             some ((false, ()), (()))
            else
            some ((false, ()), (()))
           else
           some ((false, ()), (()))
          else
          some ((false, ()), (()))
         else
         some ((false, ()), (()))
        else
        some ((false, ()), (()))
       else
       some ((false, ()), (()))
      else
      some ((false, ()), (()))
     else
     some ((false, ()), (()))
    else
    some ((false, ()), (()))
   else
   some ((false, ()), (()))
  else
  some ((false, ()), (()))
 else none
noncomputable abbrev lawSplits_k : Con SR1 := ⟨4, [.sh (.ro 17), .sh (.ro 17), .sh (.ro 1), .sh sI_], [.sh .b], fun x => lawSplits x.1 x.2.1 x.2.2.1 x.2.2.2.1⟩
theorem lawSplits_ok : CO Tryz.prog lawSplits_k := co_fn mixed Tryz.func4 [kshort_k, kconfig_k, r28new_k, koffers_k, kscript_k, r28run_k, r28events_k, knumber_k, meOf_k, awake35_k] ⟨kshort_ok, kconfig_ok, r28new_ok, koffers_ok, kscript_ok, r28run_ok, r28events_ok, knumber_ok, meOf_ok, awake35_ok, trivial⟩ [] trivial (fun _ => []) [(10, .cut [.rg 15 (.own 21), .rg 16 sI_] [0, 1, 2, 4, 15, 16, 17, 18, 20, 21, 22, 23, 39]), (11, .cut [.rg 17 (.own 21), .rg 18 sI_] [0, 1, 2, 4, 15, 16, 17, 18, 20, 21, 22, 23, 39, 40])] fun x => by kernel_rfl
end
section
open Go
def cfg35 : Cfg := ⟨1, 1, 1, 4, 1, 1, 1, 0, 1, [[]], []⟩
def st35 : List St := [⟨5, ⟨3, 0, 1, 0, 0⟩⟩, ⟨9, ⟨5, 0, 1, 0, 0⟩⟩]
theorem cfg35_eq : kconfig ([0, 0, 0, 3]) = some ((cfg35, ()), ()) := by kernel_rfl
theorem meOf35 : meOf cfg35 st35 = some ((fgV st35, 0, ()), ()) := by
  refine meOf_eq (fun k hk => ?_) (by decide) (by decide +kernel)
  have : k = 0 ∨ k = 1 := by have : k < 2 := hk; omega
  rcases this with rfl | rfl
  · show (-9223372036854775808 : Int) ≤ 1 ∧ (1 : Int) ≤ 9223372036854775807; decide
  · show (-9223372036854775808 : Int) ≤ 1 ∧ (1 : Int) ≤ 9223372036854775807; decide
theorem meShares35 : meShares cfg35 st35 = some (([1], 0, ()), ()) := by kernel_rfl
theorem meBusiest35 : meBusiest cfg35 st35 = some ((0, 0, ()), ()) := by kernel_rfl
theorem r28ints35 : r28ints [1] [1] = some ((true, ()), ()) := by kernel_rfl
theorem fg35 : fgV st35 = ⟨0, 0, 1, 0, 1, 0, 0, 0, 0, 0, 0, 4, 4⟩ := by decide +kernel
theorem awake35_true : awake35 = some ((true, ()), ()) := by
  unfold awake35
  rw [cfg35_eq, Option.bind_some]
  show (meOf cfg35 st35).bind _ = _
  rw [meOf35, Option.bind_some]
  show (meShares cfg35 st35).bind _ = _
  rw [meShares35, Option.bind_some]
  show (meBusiest cfg35 st35).bind _ = _
  rw [meBusiest35, Option.bind_some]
  dsimp only
  rw [r28ints35, fg35]
  rfl
section
variable {x : EngV} {K : Nat} (h : EngP K x)
include h
theorem evs_len : (eventsM x).length = x.e.evs.length := by
  unfold eventsM
  rw [List.length_zipWith]
  have := h.st
  omega
theorem evs_get {i : Nat} (hi : i < (eventsM x).length) : ∃ (h1 : i < x.stamps.length) (h2 : i < x.e.evs.length), (eventsM x)[i] = ⟨x.stamps[i], x.e.evs[i]⟩ := by
  have h3 := hi
  rw [evs_len h] at h3
  have := h.st
  refine ⟨by omega, h3, ?_⟩
  simp only [eventsM, List.getElem_zipWith]
theorem evs_srt : Srt (eventsM x) := fun i j hi hj hij => by
  obtain ⟨a1, a2, a3⟩ := evs_get h hi
  obtain ⟨b1, b2, b3⟩ := evs_get h hj
  rw [a3, b3]
  rcases Nat.lt_or_eq_of_le hij with hlt | rfl
  · exact List.pairwise_iff_getElem.1 h.mono i j a1 b1 hlt
  · exact Int.le_refl _
theorem evs_rng (hK : K ≤ 1000000) : RngAll (eventsM x) := fun i hi => by
  obtain ⟨a1, a2, a3⟩ := evs_get h hi
  rw [a3]
  have h1 := h.bd _ (List.getElem_mem a1)
  have h2 := h.n
  show 0 ≤ x.stamps[i] ∧ x.stamps[i] ≤ _
  omega
theorem evs_wf : StWf (eventsM x) := fun i hi => by
  obtain ⟨a1, a2, a3⟩ := evs_get h hi
  rw [a3]
  exact (h.env.evs.2 _ (List.getElem_mem a2)).task
theorem evs_le : (eventsM x).length ≤ K := by rw [evs_len h]; exact h.env.evs.1
end
theorem srt_take {l : List St} (h : Srt l) (k : Nat) : Srt (l.take k) := fun i j hi hj hij => by
  rw [List.length_take] at hi hj
  rw [List.getElem_take, List.getElem_take]
  exact h i j (by omega) (by omega) hij
theorem srt_drop {l : List St} (h : Srt l) (k : Nat) : Srt (l.drop k) := fun i j hi hj hij => by
  rw [List.length_drop] at hi hj
  rw [List.getElem_drop, List.getElem_drop]
  exact h _ _ (by omega) (by omega) (by omega)
theorem rng_take {l : List St} (h : RngAll l) (k : Nat) : RngAll (l.take k) := fun i hi => by
  rw [List.length_take] at hi
  rw [List.getElem_take]
  exact h i (by omega)
theorem rng_drop {l : List St} (h : RngAll l) (k : Nat) : RngAll (l.drop k) := fun i hi => by
  rw [List.length_drop] at hi
  rw [List.getElem_drop]
  exact h _ (by omega)
theorem wf_take {l : List St} (h : StWf l) (k : Nat) : StWf (l.take k) := fun i hi => by
  rw [List.length_take] at hi
  rw [List.getElem_take]
  exact h i (by omega)
theorem wf_drop {l : List St} (h : StWf l) (k : Nat) : StWf (l.drop k) := fun i hi => by
  rw [List.length_drop] at hi
  rw [List.getElem_drop]
  exact h _ (by omega)
theorem cnt_split (l : List St) (k : Nat) (t : Int) : cnt l t = cnt (l.take k) t + cnt (l.drop k) t := by
  unfold cnt
  rw [← List.countP_append, List.take_append_drop]
theorem wi_cnt (l : List St) (k : Nat) (t : Int) (hl : l.length ≤ 1000000) : ((cnt l t : Nat) : Int) = wi (((cnt (l.take k) t : Nat) : Int) + ((cnt (l.drop k) t : Nat) : Int)) := by
  have h1 := cnt_split l k t
  have h2 := cnt_le l t
  rw [wi_id (rg_lit (by omega))]
  omega
theorem lawSplits_true {b s raw : List Int} {cut : Int} (hb : ∀ x ∈ b, 0 ≤ x ∧ x ≤ 255) : lawSplits b s raw cut = some ((true, ()), ()) := by
  unfold lawSplits
  obtain ⟨o1, e1, h1⟩ := short_good b [raw] (by show 1 ≤ 1000000; decide)
  rw [e1, Option.bind_some]
  rcases Bool.eq_false_or_eq_true o1.1.1 with hs1 | hs1
  rotate_left
  · rw [hs1]; rfl
  rw [if_neg (by rw [hs1]; decide)]
  by_cases hs2 : 600 < ((s.length : Nat) : Int)
  · rw [if_pos hs2]
  rw [if_neg hs2]
  have hl := h1 hs1
  obtain ⟨o2, e2, h2⟩ := config_good hb (by omega)
  have hc := h2.ok
  have he := h2.err
  rw [e2, Option.bind_some]
  generalize o2.1.1 = c at hc he h2 ⊢
  rw [new_eq hc, Option.bind_some]
  obtain ⟨o4, e4, h4⟩ := offers_good hc
  rw [e4, Option.bind_some]
  obtain ⟨o5, e5, h5⟩ := script_good (b := s) (n := 300) (by omega) (by decide)
  rw [e5, Option.bind_some]
  dsimp only
  have hsn := h2.sn
  have hlen : (o4.1.1 ++ o5.1.1).length ≤ 500 := by
    rw [List.length_append]
    have := h4.1
    have := h5.1
    simp only [Int.reduceToNat] at this
    omega
  have hvs : ∀ v ∈ o4.1.1 ++ o5.1.1, Rg v.value := fun v hv => (List.mem_append.1 hv).elim (h4.2 v) (h5.2 v)
  generalize o5.1.1 = l5 at hlen hvs ⊢
  generalize o4.1.1 = l4 at hlen hvs ⊢
  rw [if_pos (by rw [← List.length_append]; omega)]
  have hn := new_inv hc
  rw [run_eq' hn hvs (Nat.le_refl 1) (by omega), Option.bind_some]
  obtain ⟨g1, g2, _, _⟩ := runL_inv (l4 ++ l5) 1 _ hn hvs (Nat.le_refl 1) (by omega)
  have g3 : EngP 2501 (runL (newM c) (l4 ++ l5)) := g1.le (by omega)
  generalize runL (newM c) (l4 ++ l5) = x at g2 g3 ⊢
  dsimp only
  rw [events_eq g3.st (by have := g3.env.evs.1; omega), Option.bind_some]
  have q1 := evs_srt g3
  have q2 := evs_rng g3 (by decide)
  have q3 := evs_wf g3
  have q4 := evs_le g3
  dsimp only
  generalize eventsM x = l at q1 q2 q3 q4 ⊢
  have ew : wi (((l.length : Nat) : Int) + 1) = ((l.length : Nat) : Int) + 1 := wi_id (rg_lit (by omega))
  rw [ew]
  obtain ⟨o8, e8, h8⟩ := number_rg (l := [cut]) (i := 0) (n := ((l.length : Nat) : Int) + 1) (by show 1 ≤ 1000000; decide) (by decide) (by decide) (by omega) (by omega)
  rw [e8, Option.bind_some]
  generalize o8.1.1 = k at h8 ⊢
  have m1 := meOf_eq (c := c) q3 (by omega) (measErr0 he q2 q1)
  have m2 := meOf_eq (c := c) (wf_take q3 k.toNat) (by rw [List.length_take]; omega) (measErr0 he (rng_take q2 k.toNat) (srt_take q1 k.toNat))
  have m3 := meOf_eq (c := c) (wf_drop q3 k.toNat) (by rw [List.length_drop]; omega) (measErr0 he (rng_drop q2 k.toNat) (srt_drop q1 k.toNat))
  have hk : 0 ≤ k ∧ k ≤ ((l.length : Nat) : Int) := ⟨h8.1, by omega⟩
  simp only [m1, m2, m3, Option.bind_some, if_pos hk, if_true, agr_self, awake35_true]
  have w := fun t => wi_cnt l k.toNat t (by omega)
  have z : l.take k.toNat ++ l.drop k.toNat = l := List.take_append_drop ..
  have z1 := latSum_split (m := l.take k.toNat) (n := l.drop k.toNat) (by rw [z]; exact q1) (l.drop k.toNat).length
  have z2 := latMax_split (m := l.take k.toNat) (n := l.drop k.toNat) (l.drop k.toNat).length
  rw [z, ← List.length_append, z] at z1 z2
  have r1 := latSum_rng (rng_take q2 k.toNat) (l.take k.toNat).length
  have r2 := latSum_rng (rng_drop q2 k.toNat) (l.drop k.toNat).length
  have l1 : (l.take k.toNat).length ≤ l.length := by rw [List.length_take]; omega
  have l2 : (l.drop k.toNat).length ≤ l.length := by rw [List.length_drop]; omega
  have ez : wi (latSum (l.take k.toNat) (l.take k.toNat).length + latSum (l.drop k.toNat) (l.drop k.toNat).length) = latSum (l.take k.toNat) (l.take k.toNat).length + latSum (l.drop k.toNat) (l.drop k.toNat).length := wi_id ⟨by omega, by omega⟩
  unfold fgV
  dsimp only
  rw [if_pos (w 1), if_pos (w 2), if_pos (w 3), if_pos (w 4), if_pos (w 5), if_pos (w 10), if_pos (w 14), if_pos (w 15), if_pos (w 11), if_pos (w 12), if_pos (w 16), ez, if_pos z1]
  rw [if_neg (by decide : ¬ (!true) = true), if_neg (by decide : ¬ (0 : Int) ≠ 0), if_neg (by decide : ¬ (0 : Int) ≠ 0), if_neg (by decide : ¬ (0 : Int) ≠ 0), decide_eq_true]
  split
  · exact z2.2
  · exact z2.1
end
end Go.Proofs.YtpbkelpokpglaaaGreat
