/- The plain answers of solo: places of cells, entries, readiness, the choice. -/
import Derived.Test.YtkfkiaieeiodnaaCfg3
import Derived.Test.YtkfkiaieeiodnaaKeep1
import Derived.Test.YtkfkiaieeiodnaaSl7
namespace Go.Proofs.Ytkfkiaieeiodnaa
open Go Go.RowKit

def encU (x : Int) : List Value := [.int .u64 x]
/-- The cell of place i among n, of which each has so many cells. -/
def atV (i n first width : Int) : Int := if i < 0 ∨ n ≤ i then -1 else first + i * width
def layDeq (c : Cfg) : Int := 4 + c.heap + c.classes + 2 * c.workers
def layTab (c : Cfg) : Int := layDeq c + c.workers * c.levels * (2 + c.deque)
def layCells (c : Cfg) : Int := layTab c + 5 * c.tasks
def topV (c : Cfg) (w l : Int) : Int := layDeq c + (w * c.levels + l) * (2 + c.deque)
def cellAt (cs : List Int) (a : Int) : Int := gi cs a.toNat
def CWf (cs : List Int) : Prop := ∀ i, 0 ≤ gi cs i ∧ gi cs i ≤ 18446744073709551615
theorem CWf.at_ {cs : List Int} (h : CWf cs) (a : Int) : 0 ≤ cellAt cs a ∧ cellAt cs a ≤ 18446744073709551615 := h _
def sizeV (b t : Int) : Int := IntKind.i64.wrap (IntKind.u64.wrap (b - t))
def ringV (ring cap i : Int) : Int := if cap < 1 then -1 else ring + i % cap
def entAt (c : Cfg) (cs : List Int) (w l t : Int) (i : Nat) : Int := IntKind.i64.wrap (cellAt cs (topV c w l + 2 + IntKind.u64.wrap (t + (i : Int)) % c.deque))
def entN (c : Cfg) (cs : List Int) (w l : Int) : Int := sizeV (cellAt cs (topV c w l + 1)) (cellAt cs (topV c w l))
def entV (c : Cfg) (cs : List Int) (w l : Int) : List Int :=
  if entN c cs w l < 1 ∨ c.deque < entN c cs w l then [] else (List.range (entN c cs w l).toNat).map (entAt c cs w l (cellAt cs (topV c w l)))
def readyB (c : Cfg) (cs : List Int) (t : Int) : Bool := decide (0 ≤ t) && decide (t < c.tasks) && decide (cellAt cs (layTab c + t * 5) = 1)
def bestFrom (c : Cfg) (cs : List Int) (w : Int) : Nat → List Int × Int
  | 0 => ([], -1)
  | k + 1 => if (entV c cs w k).filter (readyB c cs) ≠ [] then ((entV c cs w k).filter (readyB c cs), k) else bestFrom c cs w k
def bestV (c : Cfg) (cs : List Int) (w : Int) : List Int × Int := bestFrom c cs w c.levels.toNat
def insV (x : Int) : List Int → List Int
  | [] => [x]
  | y :: l => if y ≤ x then y :: insV x l else x :: y :: l
def sortV (l : List Int) : List Int := l.foldl (fun s x => insV x s) []
def taskOf (k : Int) : Int := k % 65536
/-- One key of a group: the task so far, its level, whether there is one. -/
def grpStep (c : Cfg) (cs : List Int) (s : Int × Int × Bool) (k : Int) : Int × Int × Bool :=
  if readyB c cs (taskOf k) = false then s
  else if s.2.2 = false ∨ s.2.1 ≤ cellAt cs (layTab c + 1 + taskOf k * 5) then (taskOf k, cellAt cs (layTab c + 1 + taskOf k * 5), true) else s
def grpV (c : Cfg) (cs : List Int) (g : List Int) : Int × Int × Bool := g.foldl (grpStep c cs) (0, 0, false)
def injFrom (c : Cfg) (cs : List Int) : Nat → List Int → Option Int
  | 0, _ => none
  | f + 1, ks => if ks = [] then none else if (grpV c cs (ks.take c.batch.toNat)).2.2 = true then some (grpV c cs (ks.take c.batch.toNat)).1 else injFrom c cs f (ks.drop c.batch.toNat)
def injN (cs : List Int) : Int := IntKind.i64.wrap (cellAt cs 2)
def injKeys (cs : List Int) : List Int := sortV ((cs.drop 4).take (injN cs).toNat)
def injV (c : Cfg) (cs : List Int) : Option Int := if injN cs < 1 ∨ c.heap < injN cs then none else injFrom c cs (injN cs).toNat (injKeys cs)
/-- The victim so far and its level, after i workers. -/
def stealFrom (c : Cfg) (cs : List Int) (draw w : Int) : Nat → Int × Int
  | 0 => (-1, -1)
  | i + 1 =>
    let s := stealFrom c cs draw w i
    let v := (drawM draw c.workers + i) % c.workers
    if v ≠ w ∧ s.2 < (bestV c cs v).2 then (v, (bestV c cs v).2) else s
def stealV (c : Cfg) (cs : List Int) (draw w : Int) : Int × Int := stealFrom c cs draw w c.workers.toNat
def goodB (c : Cfg) (cs : List Int) (w : Int) : Bool := decide (cfgErr c = 0) && decide ((cs.length : Int) = layCells c) && decide (0 ≤ w) && decide (w < c.workers)
/-- What a worker alone starts: the task, and whether there is one. -/
def nextV (c : Cfg) (cs : List Int) (draw w : Int) : Option Int :=
  if goodB c cs w = false then none
  else if (bestV c cs w).1 ≠ [] then (bestV c cs w).1.getLast?
  else match injV c cs with
    | some t => some t
    | none => if (stealV c cs draw w).1 < 0 then none else (bestV c cs (stealV c cs draw w).1).1.head?
def entriesV (c : Cfg) (cs : List Int) (w l : Int) : List Int := if goodB c cs w = false ∨ l < 0 ∨ c.levels ≤ l then [] else entV c cs w l

/-! ### The places lie in their bounds -/
structure CNums (c : Cfg) : Prop where
  w : 1 ≤ c.workers ∧ c.workers ≤ 16
  l : 1 ≤ c.levels ∧ c.levels ≤ 64
  cl : 1 ≤ c.classes ∧ c.classes ≤ 8
  t : 1 ≤ c.tasks ∧ c.tasks ≤ 256
  d : 1 ≤ c.deque ∧ c.deque ≤ 64
  h : 1 ≤ c.heap ∧ c.heap ≤ 64
  b : 1 ≤ c.batch ∧ c.batch ≤ c.deque
  wl : 1 ≤ c.workers * c.levels ∧ c.workers * c.levels ≤ 1024
  wd : 1 ≤ c.workers * c.levels * (2 + c.deque) ∧ c.workers * c.levels * (2 + c.deque) ≤ 67584
  ld : 1 ≤ c.levels * (2 + c.deque) ∧ c.levels * (2 + c.deque) ≤ 4224
theorem mul_in {a b A B : Int} (ha : 1 ≤ a) (hA : a ≤ A) (hb : 1 ≤ b) (hB : b ≤ B) : 1 ≤ a * b ∧ a * b ≤ A * B :=
  ⟨by have : 1 * 1 ≤ a * b := Int.mul_le_mul ha hb (by omega) (by omega)
      omega, Int.le_trans (Int.mul_le_mul_of_nonneg_right hA (by omega)) (Int.mul_le_mul_of_nonneg_left hB (by omega))⟩
theorem cnums {c : Cfg} (h : numsOk c = true) : CNums c := by
  obtain ⟨h1, h2, h3, h4, h5, h6, h7, h8, h9, h10, h11, h12, h13, h14, _⟩ := numsOk_spec h
  have a1 := mul_in h1 h2 h3 h4
  have a2 := mul_in a1.1 a1.2 (b := 2 + c.deque) (B := 66) (by omega) (by omega)
  have a3 := mul_in h3 h4 (b := 2 + c.deque) (B := 66) (by omega) (by omega)
  exact ⟨⟨h1, h2⟩, ⟨h3, h4⟩, ⟨h5, h6⟩, ⟨h7, h8⟩, ⟨h9, h10⟩, ⟨h11, h12⟩, ⟨h13, h14⟩, a1, a2, a3⟩
theorem nums_of_err {c : Cfg} (h : cfgErr c = 0) : numsOk c = true := by
  unfold cfgErr at h
  cases hn : numsOk c with
  | true => rfl
  | false => simp [hn] at h
theorem topV_eq (c : Cfg) (w l : Int) : layDeq c + w * (c.levels * (2 + c.deque)) + l * (2 + c.deque) = topV c w l := by
  unfold topV; rw [Int.add_mul, Int.mul_assoc]; omega
theorem top_in {c : Cfg} (h : CNums c) {w l : Int} (hw : 0 ≤ w ∧ w < c.workers) (hl : 0 ≤ l ∧ l < c.levels) :
    (0 ≤ w * (c.levels * (2 + c.deque)) ∧ w * (c.levels * (2 + c.deque)) ≤ 67584) ∧ (0 ≤ l * (2 + c.deque) ∧ l * (2 + c.deque) ≤ 4224) ∧
    (0 ≤ w * c.levels ∧ w * c.levels ≤ 1024) ∧ (0 ≤ (w * c.levels + l) * (2 + c.deque) ∧ (w * c.levels + l) * (2 + c.deque) ≤ 67584) ∧ 4 ≤ topV c w l ∧ topV c w l + (2 + c.deque) ≤ layTab c := by
  have e1 : (w * c.levels + l) * (2 + c.deque) = w * (c.levels * (2 + c.deque)) + l * (2 + c.deque) := by rw [Int.add_mul, Int.mul_assoc]
  have b1 : 0 ≤ w * (c.levels * (2 + c.deque)) := Int.mul_nonneg hw.1 (by have := h.ld; omega)
  have b2 : 0 ≤ l * (2 + c.deque) := Int.mul_nonneg hl.1 (by have := h.d; omega)
  have b3 : (w + 1) * (c.levels * (2 + c.deque)) ≤ c.workers * (c.levels * (2 + c.deque)) := Int.mul_le_mul_of_nonneg_right (by omega) (by have := h.ld; omega)
  have b4 : (l + 1) * (2 + c.deque) ≤ c.levels * (2 + c.deque) := Int.mul_le_mul_of_nonneg_right (by omega) (by have := h.d; omega)
  have b5 : 0 ≤ w * c.levels := Int.mul_nonneg hw.1 (by have := h.l; omega)
  have b6 : (w + 1) * c.levels ≤ c.workers * c.levels := Int.mul_le_mul_of_nonneg_right (by omega) (by have := h.l; omega)
  rw [Int.add_mul, Int.one_mul] at b3 b4 b6
  have hd := h.d; have hh := h.h; have hc := h.cl; have hww := h.w; have hwd := h.wd; have hll := h.l; have hwl := h.wl; have hld := h.ld
  rw [Int.mul_assoc] at hwd
  unfold topV layTab layDeq
  rw [Int.mul_assoc c.workers, e1]
  omega
theorem tab_in {c : Cfg} (h : CNums c) : 9 ≤ layTab c ∧ layTab c ≤ 70000 ∧ 14 ≤ layCells c ∧ layCells c ≤ 72000 ∧ 4 + c.heap < layTab c := by
  have hd := h.d; have hh := h.h; have hc := h.cl; have hww := h.w; have hwd := h.wd; have ht := h.t
  unfold layCells layTab layDeq; omega
end Go.Proofs.Ytkfkiaieeiodnaa
