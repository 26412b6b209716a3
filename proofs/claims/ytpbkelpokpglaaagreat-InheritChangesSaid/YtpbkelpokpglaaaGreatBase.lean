/- The words of our proofs: plain data of the program (configurations, events), slices of structs read as lists, what a call that makes memory leaves of the rest. No program occurs here. -/
import Derived.WalkKit
import Derived.WalkSpells
import Derived.WalkLawsBesides
import Derived.Lib.Hide
import Derived.Deep.QuietTactic
import Derived.BigQuiet
set_option linter.all false
namespace Go.Proofs.YtpbkelpokpglaaaGreat
open Go.RowKit
structure Ins where
  op : Int
  a : Int
  b : Int
structure Sub where
  prog : Int
  level : Int
  deadline : Int
structure Cfg where
  workers : Int
  levels : Int
  classes : Int
  tasks : Int
  deque : Int
  heap : Int
  batch : Int
  age : Int
  patience : Int
  progs : List (List Ins)
  subs : List Sub
structure Ev where
  kind : Int
  worker : Int
  task : Int
  other : Int
  level : Int
  deriving DecidableEq
structure St where
  at_ : Int
  ev : Ev
  deriving DecidableEq
def Ins.enc (x : Ins) : List Value := [.int .i64 x.op, .int .i64 x.a, .int .i64 x.b]
def Sub.enc (x : Sub) : List Value := [.int .i64 x.prog, .int .i64 x.level, .int .i64 x.deadline]
def Ev.enc (x : Ev) : List Value := [.int .i64 x.kind, .int .i64 x.worker, .int .i64 x.task, .int .i64 x.other, .int .i64 x.level]
def St.enc (x : St) : List Value := [.int .i64 x.at_, .int .i64 x.ev.kind, .int .i64 x.ev.worker, .int .i64 x.ev.task, .int .i64 x.ev.other, .int .i64 x.ev.level]
def encInt (x : Int) : List Value := [.int .i64 x]
def encByte (x : Nat) : List Value := [.int .u8 (x : Int)]
/-- A slice with the address A holds the elements xs, each of sz cells, in a block below B. -/
def Sl {α : Type} (enc : α → List Value) (sz : Nat) (w : World) (B : Nat) (A : Option Addr) (xs : List α) : Prop :=
  xs.length ≤ 9223372036854775807 ∧ (xs ≠ [] → ∃ b o, A = some ⟨b, o, none⟩ ∧ b < B ∧
    ∀ (i : Nat) x, xs[i]? = some x → ∀ (j : Nat) u, (enc x)[j]? = some u → w.cell? ⟨b, o + i * sz + j, none⟩ = some u)
section
variable {α : Type} {enc : α → List Value} {sz : Nat} {w w' : World} {B B' : Nat} {A : Option Addr} {xs : List α}
theorem Sl.len (h : Sl enc sz w B A xs) : xs.length ≤ 9223372036854775807 := h.1
theorem Sl.at_ (h : Sl enc sz w B A xs) {i : Nat} (hi : i < xs.length) : ∃ b o, A = some ⟨b, o, none⟩ ∧ b < B ∧
    ∀ (k : Nat) (hk : k < xs.length) (j : Nat) u, (enc xs[k])[j]? = some u → w.cell? ⟨b, o + k * sz + j, none⟩ = some u := by
  obtain ⟨b, o, e, hb, hc⟩ := h.2 (fun e => by subst e; simp at hi)
  exact ⟨b, o, e, hb, fun k hk j u hu => hc k xs[k] (List.getElem?_eq_getElem hk) j u hu⟩
theorem Sl.below (h : Sl enc sz w B A xs) (hb : Below B w w') : Sl enc sz w' B A xs :=
  ⟨h.1, fun hn => by
    obtain ⟨b, o, e, hlt, hc⟩ := h.2 hn
    exact ⟨b, o, e, hlt, fun i x hx j u hu => (hb.cell (p := ⟨b, o + i * sz + j, none⟩) hlt).trans (hc i x hx j u hu)⟩⟩
theorem Sl.more (h : Sl enc sz w B A xs) (hB : B ≤ B') : Sl enc sz w B' A xs :=
  ⟨h.1, fun hn => by
    obtain ⟨b, o, e, hlt, hc⟩ := h.2 hn
    exact ⟨b, o, e, by omega, hc⟩⟩
theorem Sl.nil : Sl enc sz w B A ([] : List α) := ⟨by simp, fun h => absurd rfl h⟩
end
/-- The programs of a configuration: a slice of slices. -/
def Progs (w : World) (B : Nat) (A : Option Addr) (ps : List (List Ins)) : Prop :=
  ps.length ≤ 9223372036854775807 ∧ (ps ≠ [] → ∃ b o, A = some ⟨b, o, none⟩ ∧ b < B ∧
    ∀ (i : Nat) p, ps[i]? = some p → ∃ (Ai : Option Addr) (ci : Nat), w.cell? ⟨b, o + i, none⟩ = some (.slice Ai p.length ci) ∧ Sl Ins.enc 3 w B Ai p)
theorem Progs.below {w w' : World} {B : Nat} {A : Option Addr} {ps : List (List Ins)} (h : Progs w B A ps) (hb : Below B w w') : Progs w' B A ps :=
  ⟨h.1, fun hn => by
    obtain ⟨b, o, e, hlt, hc⟩ := h.2 hn
    refine ⟨b, o, e, hlt, fun i p hp => ?_⟩
    obtain ⟨Ai, ci, h1, h2⟩ := hc i p hp
    exact ⟨Ai, ci, (hb.cell (p := ⟨b, o + i, none⟩) hlt).trans h1, h2.below hb⟩⟩
theorem Progs.more {w : World} {B B' : Nat} {A : Option Addr} {ps : List (List Ins)} (h : Progs w B A ps) (hB : B ≤ B') : Progs w B' A ps :=
  ⟨h.1, fun hn => by
    obtain ⟨b, o, e, hlt, hc⟩ := h.2 hn
    refine ⟨b, o, e, by omega, fun i p hp => ?_⟩
    obtain ⟨Ai, ci, h1, h2⟩ := hc i p hp
    exact ⟨Ai, ci, h1, h2.more hB⟩⟩
theorem Progs.at_ {w : World} {B : Nat} {A : Option Addr} {ps : List (List Ins)} (h : Progs w B A ps) {i : Nat} (hi : i < ps.length) :
    ∃ b o, A = some ⟨b, o, none⟩ ∧ b < B ∧ ∃ (Ai : Option Addr) (ci : Nat), w.cell? ⟨b, o + i, none⟩ = some (.slice Ai ps[i].length ci) ∧ Sl Ins.enc 3 w B Ai ps[i] := by
  obtain ⟨b, o, e, hb, hc⟩ := h.2 (fun e => by subst e; simp at hi)
  exact ⟨b, o, e, hb, hc i ps[i] (List.getElem?_eq_getElem hi)⟩
/-- Where a configuration's two slices lie. -/
structure CfgAt where
  pa : Option Addr
  pc : Nat
  sa : Option Addr
  sc : Nat
/-- A configuration as a value. -/
@[reducible] def cfgV (c : Cfg) (l : CfgAt) : Value :=
  .agg #[.int .i64 c.workers, .int .i64 c.levels, .int .i64 c.classes, .int .i64 c.tasks, .int .i64 c.deque, .int .i64 c.heap, .int .i64 c.batch, .int .i64 c.age, .int .i64 c.patience, .slice l.pa c.progs.length l.pc, .slice l.sa c.subs.length l.sc]
def CfgIn (w : World) (B : Nat) (c : Cfg) (l : CfgAt) : Prop := Progs w B l.pa c.progs ∧ Sl Sub.enc 3 w B l.sa c.subs
theorem CfgIn.below {w w' : World} {B : Nat} {c : Cfg} {l : CfgAt} (h : CfgIn w B c l) (hb : Below B w w') : CfgIn w' B c l := ⟨h.1.below hb, h.2.below hb⟩
theorem CfgIn.more {w : World} {B B' : Nat} {c : Cfg} {l : CfgAt} (h : CfgIn w B c l) (hB : B ≤ B') : CfgIn w B' c l := ⟨h.1.more hB, h.2.more hB⟩
theorem CfgIn.up {w w' : World} {c : Cfg} {l : CfgAt} (h : CfgIn w w.heap.size c l) (hb : Below w.heap.size w w') : CfgIn w' w'.heap.size c l := (h.below hb).more hb.size
theorem Sl.up {α : Type} {enc : α → List Value} {sz : Nat} {w w' : World} {A : Option Addr} {xs : List α} (h : Sl enc sz w w.heap.size A xs) (hb : Below w.heap.size w w') : Sl enc sz w' w'.heap.size A xs := (h.below hb).more hb.size
/-- One block more, then a call that leaves what was there. -/
theorem below_box1 {w w1 : World} {o : Obj} (h : Below (w.alloc o).heap.size (w.alloc o) w1) : Below w.heap.size w w1 :=
  ((Below.refl _ _).alloc (Nat.le_refl _) _).trans (h.mono (by simp))
theorem below_next {w w1 w2 : World} (h : Below w.heap.size w w1) (h2 : Below w1.heap.size w1 w2) : Below w.heap.size w w2 := h.trans (h2.mono h.size)
theorem bcell {W w1 : World} {B : Nat} (hb : Below B W w1) : (∀ b o, b < B → w1.cell? ⟨b, o, none⟩ = W.cell? ⟨b, o, none⟩) ∧ (∀ b o, b < B → w1.frozen? ⟨b, o, none⟩ = W.frozen? ⟨b, o, none⟩) :=
  ⟨fun b o h => hb.cell (p := ⟨b, o, none⟩) h, fun b o h => hb.frozen (p := ⟨b, o, none⟩) h⟩
theorem ret_int {k : IntKind} {a b : Int} (h : a = b) : Ending.returned (.int k a) = .returned (.int k b) := by rw [h]
theorem ret_bool {a b : Bool} (h : a = b) : Ending.returned (.bool a) = .returned (.bool b) := by rw [h]
theorem below_drewN {B : Nat} {a w : World} (h : Below B a w) (n : Nat) : Below B a (w.drewN n) := ⟨h.os, h.tape, h.output, h.size, h.block⟩
/-! ### A block that is known whole -/
def Blk (w : World) (g : Nat) (t : TypeId) (cs : Array Value) : Prop := w.heap[g]? = some (.cells cs t (0, 0))
section
variable {w w' : World} {g : Nat} {t : TypeId} {cs : Array Value}
theorem Blk.lt (h : Blk w g t cs) : g < w.heap.size := by
  rcases Nat.lt_or_ge g w.heap.size with hlt | hge
  · exact hlt
  · unfold Blk at h; rw [Array.getElem?_eq_none hge] at h; cases h
theorem Blk.cell (h : Blk w g t cs) (i : Nat) : w.cell? ⟨g, i, none⟩ = cs[i]? := cell_of_row w g i cs t (0, 0) h
theorem Blk.frozen (h : Blk w g t cs) (i : Nat) : w.frozen? ⟨g, i, none⟩ = false := by
  unfold Blk at h
  simp [World.frozen?, h]
theorem Blk.new (w : World) (t : TypeId) (cs : Array Value) : Blk (w.alloc (.cells cs t)) w.heap.size t cs := heap_alloc_new w _
theorem Blk.alloc (h : Blk w g t cs) (o : Obj) : Blk (w.alloc o) g t cs := (Below.heap_alloc w o g h.lt).trans h
theorem Blk.set_ (h : Blk w g t cs) (i : Nat) (u : Value) : Blk (w.setCell ⟨g, i, none⟩ u) g t (cs.setIfInBounds i u) := by
  unfold Blk at h ⊢
  simp [World.setCell, Array.getElem?_modify, h]
theorem Blk.far (h : Blk w g t cs) {p : Addr} (hp : g ≠ p.block) (u : Value) : Blk (w.setCell p u) g t cs := (Below.heap_setCell w p u g hp).trans h
theorem Blk.below {B : Nat} (h : Blk w g t cs) (hb : Below B w w') (hg : g < B) : Blk w' g t cs := (hb.block g hg).trans h
theorem Blk.grown {row : Option Nat} (h : Blk w g t cs) (hb : w.grownBy w' row) (hg : some g ≠ row) : Blk w' g t cs := (hb.block g h.lt hg).trans h
theorem Blk.of_eq {cs' : Array Value} (h : Blk w g t cs) (e : cs = cs') : Blk w g t cs' := e ▸ h
end
/-! ### A region that draws its order, whose operations only read or make memory of their own: 'Above B W': the worlds that are as W was below block B. -/
structure Above (B : Nat) (W : World) where
  w : World
  h : Below B W w
instance {B : Nat} {W : World} : Nonempty (Above B W) := ⟨⟨W, Below.refl B W⟩⟩
theorem Above.cells {B : Nat} {W : World} (x : Above B W) (b o : Nat) (h : b < B) : x.w.cell? ⟨b, o, none⟩ = W.cell? ⟨b, o, none⟩ := x.h.cell (p := ⟨b, o, none⟩) h
theorem wp_region_above {P : Program} {id : Nat} {Q : Exit → Act → World → Prop} {a : Act} {w : World} {l : List Oper} (B : Nat) (W : World) (hm : P.follows .mixedOrders = true) (hB : Region.lexB .any l.toArray = true)
    (hC : Below B W w) (h : wpQuiet P l.toArray (fun w' => ∃ x : Above B W, w' = x.w) (fun a' => ∀ w', Below B W w' → Q .normal a' w') l a) : (Code.region id l.toArray true).wp P Q a w := by
  have e : (fun a' => ∀ w', Below B W w' → Q .normal a' w') = (fun a' => ∀ w', (∃ x : Above B W, w' = x.w) → Q .normal a' w') := by
    funext a'
    exact propext ⟨fun h w' ⟨x, hx⟩ => h w' (hx ▸ x.h), fun h w' hw => h w' ⟨⟨w', hw⟩, rfl⟩⟩
  rw [e] at h
  exact wp_region_quiet (C := fun w' => ∃ x : Above B W, w' = x.w) hm hB ⟨⟨w.drew, hC.drew⟩, rfl⟩ (by simpa using h)
theorem calm_of {P : Program} {B : Nat} {W : World} {x : Above B W} {f : FuncId} {args : Array Value} {v : Value} (hB : B ≤ W.heap.size)
    (h : Calls P f args x.w fun e w' => e = .returned v ∧ Below x.w.heap.size x.w w') : Calls P f args x.w fun e w' => e = .returned v ∧ ∃ y : Above B W, w' = y.w :=
  h.mono fun _ w' ⟨he, hb⟩ => ⟨he, ⟨w', x.h.trans (hb.mono (Nat.le_trans hB x.h.size))⟩, rfl⟩
/-! ### What the functions of layer 5 answer -/
def inB (a lo hi : Int) : Bool := decide (lo ≤ a) && decide (a ≤ hi)
def insOk (levels np : Int) (x : Ins) : Bool :=
  if x.op = 0 then inB x.a 1 64 && (x.b == 0) else if x.op = 1 then inB x.a 0 (np - 1) && inB x.b 0 (levels - 1) else if x.op = 2 then inB x.a 0 31 && (x.b == 0) else false
def numsOk (c : Cfg) : Bool :=
  inB c.workers 1 16 && inB c.levels 1 64 && inB c.classes 1 (if c.levels < 8 then c.levels else 8) && inB c.tasks 1 256 && inB c.deque 1 64 && inB c.heap 1 64 && inB c.batch 1 c.deque && inB c.age 0 65536 && inB c.patience 1 65536
def progsErr (levels np : Int) : List (List Ins) → Int
  | [] => 0
  | p :: ps => if 32 < p.length then 2 else if p.all (insOk levels np) then progsErr levels np ps else 1
def subErr (levels np : Int) (s : Sub) : Int := if !inB s.prog 0 (np - 1) then 3 else if !inB s.level 0 (levels - 1) || !inB s.deadline 0 16777215 then 1 else 0
def subsErr (levels np : Int) : List Sub → Int
  | [] => 0
  | s :: ss => if subErr levels np s = 0 then subsErr levels np ss else subErr levels np s
def progsAll (c : Cfg) : Int := if !inB c.progs.length 1 32 then 2 else progsErr c.levels c.progs.length c.progs
def subsAll (c : Cfg) : Int := if 64 < c.subs.length then 2 else subsErr c.levels c.progs.length c.subs
def cfgErr (c : Cfg) : Int := if !numsOk c then 1 else if progsAll c ≠ 0 then progsAll c else subsAll c
theorem numsOk_spec {c : Cfg} (h : numsOk c = true) : 1 ≤ c.workers ∧ c.workers ≤ 16 ∧ 1 ≤ c.levels ∧ c.levels ≤ 64 ∧ 1 ≤ c.classes ∧ c.classes ≤ 8 ∧ 1 ≤ c.tasks ∧ c.tasks ≤ 256 ∧ 1 ≤ c.deque ∧ c.deque ≤ 64 ∧ 1 ≤ c.heap ∧ c.heap ≤ 64 ∧ 1 ≤ c.batch ∧ c.batch ≤ c.deque ∧ 0 ≤ c.age ∧ c.age ≤ 65536 ∧ 1 ≤ c.patience ∧ c.patience ≤ 65536 := by
  simp only [numsOk, inB, Bool.and_eq_true, decide_eq_true_eq] at h
  have : (if c.levels < 8 then c.levels else 8) ≤ 8 := by split <;> omega
  omega
end Go.Proofs.YtpbkelpokpglaaaGreat
