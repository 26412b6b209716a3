/- The reference: memory, layout. The reference: numbers. -/
import Derived.Test.YtpbkelpokpglaaaGreatQl
import Derived.Test.YtpbkelpokpglaaaGreatQj
import Derived.Test.YtpbkelpokpglaaaGreatProg
import Derived.Test.YtpbkelpokpglaaaGreatChecked
set_option linter.all false
namespace Go.Proofs.YtpbkelpokpglaaaGreat
section
open Go Go.RowKit
set_option maxRecDepth 100000
def tkR : TypeId → Option Nat := fun t => get [(3, 1), (5, 17), (23, 22), (28, 13), (44, 21), (50, 0), (54, 9), (58, 12), (62, 16), (70, 15), (73, 14), (75, 8), (78, 5), (83, 2), (85, 6), (108, 19), (110, 18), (112, 3), (114, 4), (118, 7), (122, 11), (164, 10)] t
abbrev SR1 := SR tkR
theorem mixed : Tryz.prog.follows .mixedOrders = true := by kernel_rfl
noncomputable def r2in (m : MemV) (a : Int) : Option ((Bool × Unit) × (MemV × Unit)) :=
 if 0 ≤ a then
  some ((decide (a < ((m.cells.length : Nat) : Int)), ()), (m, ()))
 else
 some ((false, ()), (m, ()))
noncomputable abbrev r2in_k : Con SR1 := ⟨185, [.ref 9, .sh sI_], [.sh .b], fun x => r2in x.1 x.2.1⟩
theorem r2in_ok : CO Tryz.prog r2in_k := co_fn mixed Tryz.func185 [] trivial [] trivial (fun _ => []) [] fun x => by kernel_rfl
noncomputable def r2acc (m : MemV) (kind : Int) (a : Int) (v : Int) (w : Int) : Option ((Int × Bool × Unit) × (MemV × Unit)) :=
 (r2in m a).bind fun r1 =>
 if (!r1.1.1) = true then
  some ((0, false, ()), (r1.2.1, ()))
 else
 if 0 ≤ a ∧ a < ((r1.2.1.cells.length : Nat) : Int) then
  if kind = 2 then
   if 0 ≤ a ∧ a < ((r1.2.1.cells.length : Nat) : Int) then
    some ((atK0 r1.2.1.cells a, true, ()), ((⟨r1.2.1.cells.set a.toNat v, ⟨kind, a, atK0 r1.2.1.cells a, v⟩, wi (r1.2.1.count + 1)⟩ : MemV), ()))
   else none
  else
  if kind = 3 then
   if (atK0 r1.2.1.cells a) = v then
    if 0 ≤ a ∧ a < ((r1.2.1.cells.length : Nat) : Int) then
     some ((atK0 r1.2.1.cells a, decide ((atK0 r1.2.1.cells a) = v), ()), ((⟨r1.2.1.cells.set a.toNat w, ⟨kind, a, atK0 r1.2.1.cells a, w⟩, wi (r1.2.1.count + 1)⟩ : MemV), ()))
    else none
   else
   if 0 ≤ a ∧ a < ((r1.2.1.cells.length : Nat) : Int) then
    some ((atK0 r1.2.1.cells a, decide ((atK0 r1.2.1.cells a) = v), ()), ((⟨r1.2.1.cells.set a.toNat (atK0 r1.2.1.cells a), ⟨kind, a, atK0 r1.2.1.cells a, atK0 r1.2.1.cells a⟩, wi (r1.2.1.count + 1)⟩ : MemV), ()))
   else none
  else
  if kind = 4 then
   if 0 ≤ a ∧ a < ((r1.2.1.cells.length : Nat) : Int) then
    some ((atK0 r1.2.1.cells a, true, ()), ((⟨r1.2.1.cells.set a.toNat (orU (atK0 r1.2.1.cells a) v), ⟨kind, a, atK0 r1.2.1.cells a, orU (atK0 r1.2.1.cells a) v⟩, wi (r1.2.1.count + 1)⟩ : MemV), ()))
   else none
  else
  if kind = 5 then
   if 0 ≤ a ∧ a < ((r1.2.1.cells.length : Nat) : Int) then
    some ((atK0 r1.2.1.cells a, true, ()), ((⟨r1.2.1.cells.set a.toNat (andU (atK0 r1.2.1.cells a) v), ⟨kind, a, atK0 r1.2.1.cells a, andU (atK0 r1.2.1.cells a) v⟩, wi (r1.2.1.count + 1)⟩ : MemV), ()))
   else none
  else
  if kind = 6 then
   if 0 ≤ a ∧ a < ((r1.2.1.cells.length : Nat) : Int) then
    some ((atK0 r1.2.1.cells a, true, ()), ((⟨r1.2.1.cells.set a.toNat (wu ((atK0 r1.2.1.cells a) + v)), ⟨kind, a, atK0 r1.2.1.cells a, wu ((atK0 r1.2.1.cells a) + v)⟩, wi (r1.2.1.count + 1)⟩ : MemV), ()))
   else none
  else
  if 0 ≤ a ∧ a < ((r1.2.1.cells.length : Nat) : Int) then
   some ((atK0 r1.2.1.cells a, true, ()), ((⟨r1.2.1.cells.set a.toNat (atK0 r1.2.1.cells a), ⟨kind, a, atK0 r1.2.1.cells a, atK0 r1.2.1.cells a⟩, wi (r1.2.1.count + 1)⟩ : MemV), ()))
  else none
 else none
noncomputable abbrev r2acc_k : Con SR1 := ⟨161, [.ref 9, .sh sI_, .sh sI_, .sh sU_, .sh sU_], [.sh sU_, .sh .b], fun x => r2acc x.1 x.2.1 x.2.2.1 x.2.2.2.1 x.2.2.2.2.1⟩
theorem r2acc_ok : CO Tryz.prog r2acc_k := co_fn mixed Tryz.func161 [r2in_k] ⟨r2in_ok, trivial⟩ [] trivial (fun _ => []) [] fun x => by kernel_rfl
noncomputable def r6index (a : Int) (b : Int) (c : Int) (d : Int) : Option ((Int × Unit) × (Unit)) :=
 if b < 0 then
  some (((-1), ()), (()))
 else
 if c ≤ b then
  some (((-1), ()), (()))
 else
 some ((wi (a + (wi (b * d))), ()), (()))
noncomputable abbrev r6index_k : Con SR1 := ⟨103, [.sh sI_, .sh sI_, .sh sI_, .sh sI_], [.sh sI_], fun x => r6index x.1 x.2.1 x.2.2.1 x.2.2.2.1⟩
theorem r6index_ok : CO Tryz.prog r6index_k := co_fn mixed Tryz.func103 [] trivial [] trivial (fun _ => []) [] fun x => by kernel_rfl
noncomputable def r6deques (c : Cfg) : Option ((Int × Unit) × (Unit)) :=
 some ((wi ((wi ((wi (4 + c.heap)) + c.classes)) + (wi (2 * c.workers))), ()), (()))
noncomputable abbrev r6deques_k : Con SR1 := ⟨85, [.val 13], [.sh sI_], fun x => r6deques x.1⟩
theorem r6deques_ok : CO Tryz.prog r6deques_k := co_fn mixed Tryz.func85 [] trivial [] trivial (fun _ => []) [] fun x => by kernel_rfl
noncomputable def r6queue (c : Cfg) (a : Int) (b : Int) : Option ((QV × Unit) × (Unit)) :=
 if a < 0 then
  some (((⟨(-1), (-1), (-1), 0⟩ : QV), ()), (()))
 else
 if c.workers ≤ a then
  some (((⟨(-1), (-1), (-1), 0⟩ : QV), ()), (()))
 else
 if b < 0 then
  some (((⟨(-1), (-1), (-1), 0⟩ : QV), ()), (()))
 else
 if c.levels ≤ b then
  some (((⟨(-1), (-1), (-1), 0⟩ : QV), ()), (()))
 else
 (r6deques c).bind fun r1 =>
 if c.deque = c.deque then
  if c.levels = c.levels then
   some (((⟨wi (r1.1.1 + (wi ((wi ((wi (a * c.levels)) + b)) * (wi (2 + c.deque))))), wi ((wi (r1.1.1 + (wi ((wi ((wi (a * c.levels)) + b)) * (wi (2 + c.deque)))))) + 1), wi ((wi (r1.1.1 + (wi ((wi ((wi (a * c.levels)) + b)) * (wi (2 + c.deque)))))) + 2), c.deque⟩ : QV), ()), (()))
  else none
 else none
noncomputable abbrev r6queue_k : Con SR1 := ⟨73, [.val 13, .sh sI_, .sh sI_], [.val 14], fun x => r6queue x.1 x.2.1 x.2.2.1⟩
theorem r6queue_ok : CO Tryz.prog r6queue_k := co_fn mixed Tryz.func73 [r6deques_k] ⟨r6deques_ok, trivial⟩ [] trivial (fun _ => []) [] fun x => by kernel_rfl
noncomputable def r6task (c : Cfg) (a : Int) (b : Int) : Option ((Int × Unit) × (Unit)) :=
 (r6deques c).bind fun r1 =>
 if c.tasks = c.tasks then
  if c.deque = c.deque then
   if c.levels = c.levels then
    if c.workers = c.workers then
     (r6index (wi (r1.1.1 + (wi ((wi (c.workers * c.levels)) * (wi (2 + c.deque)))))) a c.tasks 5).bind fun r2 =>
     if r2.1.1 < 0 then
      some (((-1), ()), (()))
     else
     some ((wi (r2.1.1 + b), ()), (()))
    else none
   else none
  else none
 else none
noncomputable abbrev r6task_k : Con SR1 := ⟨80, [.val 13, .sh sI_, .sh sI_], [.sh sI_], fun x => r6task x.1 x.2.1 x.2.2.1⟩
theorem r6task_ok : CO Tryz.prog r6task_k := co_fn mixed Tryz.func80 [r6deques_k, r6index_k] ⟨r6deques_ok, r6index_ok, trivial⟩ [] trivial (fun _ => []) [] fun x => by kernel_rfl
noncomputable def r6slot (c : Cfg) (a : Int) : Option ((Int × Unit) × (Unit)) :=
 (r6index 4 a c.heap 1).bind fun r1 =>
 some ((r1.1.1, ()), (()))
noncomputable abbrev r6slot_k : Con SR1 := ⟨108, [.val 13, .sh sI_], [.sh sI_], fun x => r6slot x.1 x.2.1⟩
theorem r6slot_ok : CO Tryz.prog r6slot_k := co_fn mixed Tryz.func108 [r6index_k] ⟨r6index_ok, trivial⟩ [] trivial (fun _ => []) [] fun x => by kernel_rfl
noncomputable def r6state (c : Cfg) (a : Int) : Option ((Int × Unit) × (Unit)) :=
 (r6task c a 0).bind fun r1 =>
 some ((r1.1.1, ()), (()))
noncomputable abbrev r6state_k : Con SR1 := ⟨50, [.val 13, .sh sI_], [.sh sI_], fun x => r6state x.1 x.2.1⟩
theorem r6state_ok : CO Tryz.prog r6state_k := co_fn mixed Tryz.func50 [r6task_k] ⟨r6task_ok, trivial⟩ [] trivial (fun _ => []) [] fun x => by kernel_rfl
noncomputable def r6level (c : Cfg) (a : Int) : Option ((Int × Unit) × (Unit)) :=
 (r6task c a 1).bind fun r1 =>
 some ((r1.1.1, ()), (()))
noncomputable abbrev r6level_k : Con SR1 := ⟨111, [.val 13, .sh sI_], [.sh sI_], fun x => r6level x.1 x.2.1⟩
theorem r6level_ok : CO Tryz.prog r6level_k := co_fn mixed Tryz.func111 [r6task_k] ⟨r6task_ok, trivial⟩ [] trivial (fun _ => []) [] fun x => by kernel_rfl
noncomputable def r6bitmap (c : Cfg) (a : Int) : Option ((Int × Unit) × (Unit)) :=
 (r6index (wi ((wi ((wi (4 + c.heap)) + c.classes)) + c.workers)) a c.workers 1).bind fun r1 =>
 some ((r1.1.1, ()), (()))
noncomputable abbrev r6bitmap_k : Con SR1 := ⟨112, [.val 13, .sh sI_], [.sh sI_], fun x => r6bitmap x.1 x.2.1⟩
theorem r6bitmap_ok : CO Tryz.prog r6bitmap_k := co_fn mixed Tryz.func112 [r6index_k] ⟨r6index_ok, trivial⟩ [] trivial (fun _ => []) [] fun x => by kernel_rfl
noncomputable def r6cells (c : Cfg) : Option ((Int × Unit) × (Unit)) :=
 (r6deques c).bind fun r1 =>
 if c.tasks = c.tasks then
  if c.deque = c.deque then
   if c.levels = c.levels then
    if c.workers = c.workers then
     some ((wi ((wi (r1.1.1 + (wi ((wi (c.workers * c.levels)) * (wi (2 + c.deque)))))) + (wi (5 * c.tasks))), ()), (()))
    else none
   else none
  else none
 else none
noncomputable abbrev r6cells_k : Con SR1 := ⟨56, [.val 13], [.sh sI_], fun x => r6cells x.1⟩
theorem r6cells_ok : CO Tryz.prog r6cells_k := co_fn mixed Tryz.func56 [r6deques_k] ⟨r6deques_ok, trivial⟩ [] trivial (fun _ => []) [] fun x => by kernel_rfl
noncomputable def r6since (c : Cfg) (a : Int) : Option ((Int × Unit) × (Unit)) :=
 (r6task c a 4).bind fun r1 =>
 some ((r1.1.1, ()), (()))
noncomputable abbrev r6since_k : Con SR1 := ⟨170, [.val 13, .sh sI_], [.sh sI_], fun x => r6since x.1 x.2.1⟩
theorem r6since_ok : CO Tryz.prog r6since_k := co_fn mixed Tryz.func170 [r6task_k] ⟨r6task_ok, trivial⟩ [] trivial (fun _ => []) [] fun x => by kernel_rfl
noncomputable def r6waits (c : Cfg) (a : Int) : Option ((Int × Unit) × (Unit)) :=
 (r6task c a 3).bind fun r1 =>
 some ((r1.1.1, ()), (()))
noncomputable abbrev r6waits_k : Con SR1 := ⟨171, [.val 13, .sh sI_], [.sh sI_], fun x => r6waits x.1 x.2.1⟩
theorem r6waits_ok : CO Tryz.prog r6waits_k := co_fn mixed Tryz.func171 [r6task_k] ⟨r6task_ok, trivial⟩ [] trivial (fun _ => []) [] fun x => by kernel_rfl
noncomputable def r6sleepers (c : Cfg) (a : Int) : Option ((Int × Unit) × (Unit)) :=
 (r6index (wi (4 + c.heap)) a c.classes 1).bind fun r1 =>
 some ((r1.1.1, ()), (()))
noncomputable abbrev r6sleepers_k : Con SR1 := ⟨172, [.val 13, .sh sI_], [.sh sI_], fun x => r6sleepers x.1 x.2.1⟩
theorem r6sleepers_ok : CO Tryz.prog r6sleepers_k := co_fn mixed Tryz.func172 [r6index_k] ⟨r6index_ok, trivial⟩ [] trivial (fun _ => []) [] fun x => by kernel_rfl
noncomputable def r6epoch (c : Cfg) (a : Int) : Option ((Int × Unit) × (Unit)) :=
 (r6index (wi ((wi (4 + c.heap)) + c.classes)) a c.workers 1).bind fun r1 =>
 some ((r1.1.1, ()), (()))
noncomputable abbrev r6epoch_k : Con SR1 := ⟨173, [.val 13, .sh sI_], [.sh sI_], fun x => r6epoch x.1 x.2.1⟩
theorem r6epoch_ok : CO Tryz.prog r6epoch_k := co_fn mixed Tryz.func173 [r6index_k] ⟨r6index_ok, trivial⟩ [] trivial (fun _ => []) [] fun x => by kernel_rfl
noncomputable def r6join (c : Cfg) (a : Int) : Option ((Int × Unit) × (Unit)) :=
 (r6task c a 2).bind fun r1 =>
 some ((r1.1.1, ()), (()))
noncomputable abbrev r6join_k : Con SR1 := ⟨178, [.val 13, .sh sI_], [.sh sI_], fun x => r6join x.1 x.2.1⟩
theorem r6join_ok : CO Tryz.prog r6join_k := co_fn mixed Tryz.func178 [r6task_k] ⟨r6task_ok, trivial⟩ [] trivial (fun _ => []) [] fun x => by kernel_rfl
end
section
open Go Go.RowKit
set_option maxRecDepth 100000
noncomputable def r1power (a : Int) : Option ((Int × Unit) × (Unit)) :=
 (lpF (σ := Int × Int × Unit) (β := Int × Int × Unit) (fun self3 x1 =>
  if 0 < x1.1 then
   self3 (wi (x1.1 - 1), wu (x1.2.1 * 2), ())
  else
  some (x1.1, x1.2.1, ())
 ) 18446744073709551616 (a, 1, ())).bind fun z2 =>
 some ((z2.2.1, ()), (()))
noncomputable abbrev r1power_k : Con SR1 := ⟨158, [.sh sI_], [.sh sU_], fun x => r1power x.1⟩
theorem r1power_ok : CO Tryz.prog r1power_k := co_fn mixed Tryz.func158 [] trivial [] trivial (fun _ => []) [(2, .loop [.rg 0 sI_, .rg 3 sU_] 18446744073709551616 0)] fun x => by kernel_rfl
noncomputable def r1bit (a : Int) (b : Int) : Option ((Bool × Unit) × (Unit)) :=
 if 0 ≤ b then
  if b < 64 then
   (r1power b).bind fun r1 =>
   if r1.1.1 ≠ 0 then
    some ((decide ((Int.tmod (wu (Int.tdiv a r1.1.1)) 2) = 1), ()), (()))
   else none
  else
  some ((false, ()), (()))
 else
 some ((false, ()), (()))
noncomputable abbrev r1bit_k : Con SR1 := ⟨163, [.sh sU_, .sh sI_], [.sh .b], fun x => r1bit x.1 x.2.1⟩
theorem r1bit_ok : CO Tryz.prog r1bit_k := co_fn mixed Tryz.func163 [r1power_k] ⟨r1power_ok, trivial⟩ [] trivial (fun _ => []) [] fun x => by kernel_rfl
noncomputable def r1pack (a : Int) (b : Int) (c : Int) : Option ((Int × Bool × Unit) × (Unit)) :=
 if a < 0 then
  some ((0, false, ()), (()))
 else
 if 16777215 < a then
  some ((0, false, ()), (()))
 else
 if b < 0 then
  some ((0, false, ()), (()))
 else
 if 16777215 < b then
  some ((0, false, ()), (()))
 else
 if c < 0 then
  some ((0, false, ()), (()))
 else
 if 65535 < c then
  some ((0, false, ()), (()))
 else
 (r1power 24).bind fun r1 =>
 (r1power 16).bind fun r2 =>
 some ((wu ((wu ((wu ((wu ((wu (a)) * r1.1.1)) + (wu (b)))) * r2.1.1)) + (wu (c))), true, ()), (()))
noncomputable abbrev r1pack_k : Con SR1 := ⟨164, [.sh sI_, .sh sI_, .sh sI_], [.sh sU_, .sh .b], fun x => r1pack x.1 x.2.1 x.2.2.1⟩
theorem r1pack_ok : CO Tryz.prog r1pack_k := co_fn mixed Tryz.func164 [r1power_k] ⟨r1power_ok, trivial⟩ [] trivial (fun _ => []) [] fun x => by kernel_rfl
noncomputable def r1unpack (a : Int) : Option ((Int × Int × Int × Unit) × (Unit)) :=
 (r1power 40).bind fun r1 =>
 if r1.1.1 ≠ 0 then
  (r1power 16).bind fun r2 =>
  if r2.1.1 ≠ 0 then
   (r1power 24).bind fun r3 =>
   if r3.1.1 ≠ 0 then
    (r1power 16).bind fun r4 =>
    if r4.1.1 ≠ 0 then
     some ((wi (wu (Int.tdiv a r1.1.1)), wi ((Int.tmod (wu (Int.tdiv a r2.1.1)) r3.1.1)), wi ((Int.tmod a r4.1.1)), ()), (()))
    else none
   else none
  else none
 else none
noncomputable abbrev r1unpack_k : Con SR1 := ⟨110, [.sh sU_], [.sh sI_, .sh sI_, .sh sI_], fun x => r1unpack x.1⟩
theorem r1unpack_ok : CO Tryz.prog r1unpack_k := co_fn mixed Tryz.func110 [r1power_k] ⟨r1power_ok, trivial⟩ [] trivial (fun _ => []) [] fun x => by kernel_rfl
noncomputable def r1mask (a : Int) : Option ((Int × Unit) × (Unit)) :=
 if a < 0 then
  some ((0, ()), (()))
 else
 if 63 < a then
  some ((0, ()), (()))
 else
 (r1power a).bind fun r1 =>
 some ((r1.1.1, ()), (()))
noncomputable abbrev r1mask_k : Con SR1 := ⟨122, [.sh sI_], [.sh sU_], fun x => r1mask x.1⟩
theorem r1mask_ok : CO Tryz.prog r1mask_k := co_fn mixed Tryz.func122 [r1power_k] ⟨r1power_ok, trivial⟩ [] trivial (fun _ => []) [] fun x => by kernel_rfl
noncomputable def r1high (a : Int) : Option ((Int × Unit) × (Unit)) :=
 (lpF (σ := Int × Unit) (β := (Int × Unit) ⊕ ((Int × Unit) × (Unit))) (fun self3 x1 =>
  if 0 ≤ x1.1 then
   (r1bit a x1.1).bind fun r4 =>
   if r4.1.1 = true then
    Option.map Sum.inr (
     some ((x1.1, ()), (()))
    )
   else
   self3 (wi (x1.1 - 1), ())
  else
  some (Sum.inl (x1.1, ()))
 ) 18446744073709551616 (63, ())).bind fun z2 => match z2 with
 | .inr o5 => some o5
 | .inl z2 =>
 some (((-1), ()), (()))
noncomputable abbrev r1high_k : Con SR1 := ⟨126, [.sh sU_], [.sh sI_], fun x => r1high x.1⟩
theorem r1high_ok : CO Tryz.prog r1high_k := co_fn mixed Tryz.func126 [r1bit_k] ⟨r1bit_ok, trivial⟩ [] trivial (fun _ => []) [(2, .loopR [.rg 3 sI_] 18446744073709551616 0)] fun x => by kernel_rfl
noncomputable def r1nth (a : Int) (b : Int) : Option ((Int × Unit) × (Unit)) :=
 (lpF (σ := Int × Int × Unit) (β := (Int × Int × Unit) ⊕ ((Int × Unit) × (Unit))) (fun self3 x1 =>
  if x1.2.1 < 64 then
   (r1bit a x1.2.1).bind fun r4 =>
   if (!r4.1.1) = true then
    self3 (x1.1, wi (x1.2.1 + 1), ())
   else
   if x1.1 = 0 then
    Option.map Sum.inr (
     some ((x1.2.1, ()), (()))
    )
   else
   self3 (wi (x1.1 - 1), wi (x1.2.1 + 1), ())
  else
  some (Sum.inl (x1.1, x1.2.1, ()))
 ) 18446744073709551616 (b, 0, ())).bind fun z2 => match z2 with
 | .inr o5 => some o5
 | .inl z2 =>
 some (((-1), ()), (()))
noncomputable abbrev r1nth_k : Con SR1 := ⟨186, [.sh sU_, .sh sI_], [.sh sI_], fun x => r1nth x.1 x.2.1⟩
theorem r1nth_ok : CO Tryz.prog r1nth_k := co_fn mixed Tryz.func186 [r1bit_k] ⟨r1bit_ok, trivial⟩ [] trivial (fun _ => []) [(2, .loopR [.rg 1 sI_, .rg 5 sI_] 18446744073709551616 0)] fun x => by kernel_rfl
noncomputable def r1low (a : Int) : Option ((Int × Unit) × (Unit)) :=
 (r1nth a 0).bind fun r1 =>
 some ((r1.1.1, ()), (()))
noncomputable abbrev r1low_k : Con SR1 := ⟨175, [.sh sU_], [.sh sI_], fun x => r1low x.1⟩
theorem r1low_ok : CO Tryz.prog r1low_k := co_fn mixed Tryz.func175 [r1nth_k] ⟨r1nth_ok, trivial⟩ [] trivial (fun _ => []) [] fun x => by kernel_rfl
noncomputable def r1class (a : Int) (b : Int) (c : Int) : Option ((Int × Unit) × (Unit)) :=
 if b < 1 then
  some ((0, ()), (()))
 else
 if 64 < b then
  some ((0, ()), (()))
 else
 if a < 0 then
  some ((0, ()), (()))
 else
 if b ≤ a then
  some ((0, ()), (()))
 else
 if c < 1 then
  some ((0, ()), (()))
 else
 if 8 < c then
  some ((0, ()), (()))
 else
 if b ≠ 0 then
  some ((wi (Int.tdiv (wi (a * c)) b), ()), (()))
 else none
noncomputable abbrev r1class_k : Con SR1 := ⟨174, [.sh sI_, .sh sI_, .sh sI_], [.sh sI_], fun x => r1class x.1 x.2.1 x.2.2.1⟩
theorem r1class_ok : CO Tryz.prog r1class_k := co_fn mixed Tryz.func174 [] trivial [] trivial (fun _ => []) [] fun x => by kernel_rfl
end
end Go.Proofs.YtpbkelpokpglaaaGreat
