/- Evaluation by itself: kinds by their shapes. No program occurs here. The reference's data as kinds. No program occurs here. Evaluation by itself: data from values, values from data. No program occurs here. Evaluation by itself: states by their data, where ways meet and loops begin. No program occurs here. -/
import Derived.Test.YtpbkelpokpglaaaGreatQe
import Derived.Test.YtpbkelpokpglaaaGreatQf
import Derived.Test.YtpbkelpokpglaaaGreatQh
set_option linter.all false
namespace Go.Proofs.YtpbkelpokpglaaaGreat
section
open Go Go.RowKit
inductive Sh where
  | i (k : IntKind)
  | b
  | own (c : Nat)
  | row (c : Nat)
  | ro (c : Nat)
  | rr (c : Nat)
  | mach
section
variable (T : Nat → Type) (M : Type)
def shT : Sh → Type
  | .i _ => Int
  | .b => Bool
  | .own c => T c
  | .row c => List (T c)
  | .ro c => List (T c)
  | .rr c => List (List (T c))
  | .mach => M
def HL : List Sh → Type
  | [] => Unit
  | s :: l => shT T M s × HL l
def vw1 : (s : Sh) → shT T M s → Fl T M
  | .i k, x => .i k x
  | .b, x => .b x
  | .own c, x => .own c x
  | .row c, x => .row c x
  | .ro c, x => .ro c x
  | .rr c, x => .rr c x
  | .mach, x => .mach x
def vwP : (l : List Sh) → HL T M l → List (Fl T M)
  | [], _ => []
  | s :: l, p => vw1 T M s p.1 :: vwP l p.2
def cst {F : Nat → Type} (c c' : Nat) (x : F c) : Option (F c') := if h : c = c' then some (h ▸ x) else none
theorem cst_ok {F : Nat → Type} {c c' : Nat} {x : F c} {y : F c'} (h : cst c c' x = some y) : ∃ e : c = c', y = e ▸ x := by
  unfold cst at h
  split at h
  · rename_i e; cases h; exact ⟨e, rfl⟩
  · cases h
def beqK : IntKind → IntKind → Bool
  | .i64, .i64 => true
  | .u64, .u64 => true
  | .u8, .u8 => true
  | _, _ => false
theorem beqK_eq {k k' : IntKind} (h : beqK k k' = true) : k = k' := by cases k <;> cases k' <;> first | rfl | cases h
def bk1 : (s : Sh) → Fl T M → Option (shT T M s)
  | .i k => fun f => match f with
    | .i k' x => match beqK k' k with
      | true => some x
      | false => none
    | _ => none
  | .b => fun f => match f with
    | .b x => some x
    | _ => none
  | .own c => fun f => match f with
    | .own c' x => cst (F := T) c' c x
    | _ => none
  | .row c => fun f => match f with
    | .row c' x => cst (F := fun c => List (T c)) c' c x
    | _ => none
  | .ro c => fun f => match f with
    | .ro c' x => cst (F := fun c => List (T c)) c' c x
    | _ => none
  | .rr c => fun f => match f with
    | .rr c' x => cst (F := fun c => List (List (T c))) c' c x
    | _ => none
  | .mach => fun f => match f with
    | .mach x => some x
    | _ => none
theorem bk1_ok {s : Sh} {f : Fl T M} {x : shT T M s} (h : bk1 T M s f = some x) : vw1 T M s x = f := by
  cases s with
  | i k =>
    cases f <;> first | (have h' : (none : Option (shT T M (.i k))) = some x := h; cases h'; done) | skip
    rename_i k' y
    have h' : (match beqK k' k with | true => some y | false => none) = some x := h
    split at h'
    · rename_i e; cases h'; rw [beqK_eq e]; rfl
    · cases h'
  | b =>
    cases f <;> first | (have h' : (none : Option (shT T M .b)) = some x := h; cases h'; done) | skip
    rename_i y
    have h' : some y = some x := h
    cases h'; rfl
  | own c =>
    cases f <;> first | (have h' : (none : Option (shT T M (.own c))) = some x := h; cases h'; done) | skip
    rename_i c' y
    obtain ⟨e, h2⟩ := cst_ok (show cst (F := T) c' c y = some x from h)
    subst e; subst h2; rfl
  | row c =>
    cases f <;> first | (have h' : (none : Option (shT T M (.row c))) = some x := h; cases h'; done) | skip
    rename_i c' y
    obtain ⟨e, h2⟩ := cst_ok (show cst (F := fun c => List (T c)) c' c y = some x from h)
    subst e; subst h2; rfl
  | ro c =>
    cases f <;> first | (have h' : (none : Option (shT T M (.ro c))) = some x := h; cases h'; done) | skip
    rename_i c' y
    obtain ⟨e, h2⟩ := cst_ok (show cst (F := fun c => List (T c)) c' c y = some x from h)
    subst e; subst h2; rfl
  | rr c =>
    cases f <;> first | (have h' : (none : Option (shT T M (.rr c))) = some x := h; cases h'; done) | skip
    rename_i c' y
    obtain ⟨e, h2⟩ := cst_ok (show cst (F := fun c => List (List (T c))) c' c y = some x from h)
    subst e; subst h2; rfl
  | mach =>
    cases f <;> first | (have h' : (none : Option (shT T M .mach)) = some x := h; cases h'; done) | skip
    rename_i y
    have h' : some y = some x := h
    cases h'; rfl
def bkP : (l : List Sh) → List (Fl T M) → Option (HL T M l)
  | [], [] => some ()
  | s :: l, f :: fs => match bk1 T M s f with
    | some x => match bkP l fs with
      | some p => some (x, p)
      | none => none
    | none => none
  | _, _ => none
theorem bkP_ok : ∀ {l : List Sh} {fs : List (Fl T M)} {p : HL T M l}, bkP T M l fs = some p → vwP T M l p = fs
  | [], [], p, _ => rfl
  | s :: l, f :: fs, p, h => by
    unfold bkP at h
    split at h
    · rename_i x hx
      split at h
      · rename_i q hq
        cases h
        show vw1 T M s x :: vwP T M l q = _
        rw [bk1_ok _ _ hx, bkP_ok hq]
      · cases h
    · cases h
  | [], _ :: _, _, h => by cases h
  | _ :: _, [], _, h => by cases h
theorem vw1_nc (s : Sh) (x : shT T M s) (u : Value) : vw1 T M s x ≠ .c u := by cases s <;> exact fun h => by cases h
theorem vwP_nc : ∀ (l : List Sh) (p : HL T M l), ∀ f ∈ vwP T M l p, ∀ u, f ≠ .c u
  | [], _, f, h, _ => by cases h
  | s :: l, p, f, h, u => by
    rcases List.mem_cons.1 (show f ∈ vw1 T M s p.1 :: vwP T M l p.2 from h) with e | e
    · subst e; exact vw1_nc T M s p.1 u
    · exact vwP_nc l p.2 f e u
theorem vwP_len : ∀ {l : List Sh} {p : HL T M l}, (vwP T M l p).length = l.length
  | [], _ => rfl
  | s :: l, p => by
    show (vw1 T M s p.1 :: vwP T M l p.2).length = _
    rw [List.length_cons, vwP_len, List.length_cons]
def plSh : List Sh → Bool
  | [] => true
  | s :: l => match s with
    | .i _ => plSh l
    | .b => plSh l
    | _ => false
theorem plSh_ok : ∀ (l : List Sh) (p : HL T M l), plSh l = true → plainB (vwP T M l p) = true
  | [], _, _ => rfl
  | .i k :: l, p, h => plSh_ok l p.2 h
  | .b :: l, p, h => plSh_ok l p.2 h
  | .own _ :: _, _, h => by cases h
  | .row _ :: _, _, h => by cases h
  | .ro _ :: _, _, h => by cases h
  | .rr _ :: _, _, h => by cases h
  | .mach :: _, _, h => by cases h
end
/-- The kinds by their shapes. -/
structure Shp where
  T : Nat → Type
  M : Type
  sh : Nat → List Sh
  to_ : (c : Nat) → T c → HL T M (sh c)
  of : (c : Nat) → HL T M (sh c) → T c
  ok : ∀ c p, to_ c (of c p) = p
  df : (c : Nat) → T c
  tid : Nat → TypeId
  tk : TypeId → Option Nat
  spl : M → Option (Σ c : Nat, T c)
  nilM : M
  nilM_ok : spl nilM = none
  mkM : (c : Nat) → T c → Option M
  mkM_ok : ∀ c x m, mkM c x = some m → spl m = some ⟨c, x⟩
  kd : TypeId → Option Nat
  kd_ok : ∀ t c, kd t = some c → tid c = t
  ls : (c c' : Nat) → Option (PLift (T c' = List (T c)))
  ls_ok : ∀ c c' h, ls c c' = some h → ∀ x, vwP T M (sh c') (to_ c' x) = [.ro c (h.down ▸ x)]
abbrev Shp.kt (S : Shp) : KT where
  T := S.T
  M := S.M
  df := S.df
  sz := fun c => (S.sh c).length
  vw := fun c x => vwP S.T S.M (S.sh c) (S.to_ c x)
  bk := fun c l => (bkP S.T S.M (S.sh c) l).map (S.of c)
  bk_ok := fun c l x h => by
    simp only [Option.map_eq_some_iff] at h
    obtain ⟨p, hp, rfl⟩ := h
    rw [S.ok]; exact bkP_ok _ _ hp
  sz_ok := fun c x => vwP_len _ _
  pl := fun c => plSh (S.sh c)
  pl_ok := fun c h x => plSh_ok _ _ _ _ h
  nc := fun c x => vwP_nc _ _ _ _
  tid := S.tid
  tk := S.tk
  spl := S.spl
  nilM := S.nilM
  nilM_ok := S.nilM_ok
  mkM := S.mkM
  mkM_ok := S.mkM_ok
  kd := S.kd
  kd_ok := S.kd_ok
  ls := S.ls
  ls_ok := S.ls_ok
end
section
open Go Go.RowKit
structure EnvV where
  c : Cfg
  m : MemV
  now : Int
  draw : Int
  recs : List RecV
  evs : List Ev
structure MaV where
  f : List FrV
  over : Bool
  code : Int
  value : Int
structure EngV where
  e : EnvV
  m : List MaV
  n : Int
  stamps : List Int
  last : AccV
/-- A coder: its bytes, those that it wrote, its place. -/
structure CodV where
  inn : List Int
  out : List Int
  at_ : Int
  bad : Bool
structure FgV where
  acc : Int
  rej : Int
  spa : Int
  ref : Int
  sta : Int
  fin : Int
  ste : Int
  ski : Int
  boo : Int
  age : Int
  par : Int
  lat : Int
  wor : Int
  deriving DecidableEq
def TR : Nat → Type
  | 0 => Int
  | 1 => Int
  | 2 => Ev
  | 3 => Ins
  | 4 => Sub
  | 5 => EntV
  | 6 => St
  | 7 => RecV
  | 8 => FrV
  | 9 => MemV
  | 10 => ResV
  | 11 => MaV
  | 12 => EnvV
  | 13 => Cfg
  | 14 => QV
  | 15 => MaV
  | 16 => EngV
  | 17 => Int
  | 18 => List Ins
  | 19 => CodV
  | 20 => Cfg
  | 21 => FgV
  | 22 => List Int
  | _ => Unit
abbrev sI_ : Sh := .i .i64
abbrev sU_ : Sh := .i .u64
def shR : Nat → List Sh
  | 0 => [sU_]
  | 1 => [sI_]
  | 2 => [sI_, sI_, sI_, sI_, sI_]
  | 3 => [sI_, sI_, sI_]
  | 4 => [sI_, sI_, sI_]
  | 5 => [sI_, sI_]
  | 6 => [sI_, sI_, sI_, sI_, sI_, sI_]
  | 7 => [sI_, sI_, sI_, sI_, sI_, .ro 1, .b]
  | 8 => [sI_, sI_, sI_, sI_, sI_, sI_, sI_, sI_, sI_, sI_, sI_, sI_, sI_, sU_, sU_, sU_, sU_, .ro 1]
  | 9 => [.row 0, sI_, sI_, sU_, sU_, sI_]
  | 10 => [.b, sI_, sI_]
  | 11 => [.row 8, .b, sI_, sI_]
  | 12 => [sI_, sI_, sI_, sI_, sI_, sI_, sI_, sI_, sI_, .rr 3, .ro 4, .row 0, sI_, sI_, sU_, sU_, sI_, sI_, sI_, .row 7, .row 2]
  | 13 => [sI_, sI_, sI_, sI_, sI_, sI_, sI_, sI_, sI_, .rr 3, .ro 4]
  | 14 => [sI_, sI_, sI_, sI_]
  | 15 => [.own 11]
  | 16 => [.own 12, .row 15, sI_, .row 1, sI_, sI_, sU_, sU_]
  | 17 => [.i .u8]
  | 18 => [.ro 3]
  | 19 => [.ro 17, .ro 17, sI_, .b]
  | 20 => [sI_, sI_, sI_, sI_, sI_, sI_, sI_, sI_, sI_, .row 18, .row 4]
  | 21 => [sI_, sI_, sI_, sI_, sI_, sI_, sI_, sI_, sI_, sI_, sI_, sI_, sI_]
  | 22 => [.ro 1]
  | _ => []
def toR : (c : Nat) → TR c → HL TR Unit (shR c)
  | 0 => fun x => (x, ())
  | 1 => fun x => (x, ())
  | 2 => fun x => (x.kind, x.worker, x.task, x.other, x.level, ())
  | 3 => fun x => (x.op, x.a, x.b, ())
  | 4 => fun x => (x.prog, x.level, x.deadline, ())
  | 5 => fun x => (x.kind, x.value, ())
  | 6 => fun x => (x.at_, x.ev.kind, x.ev.worker, x.ev.task, x.ev.other, x.ev.level, ())
  | 7 => fun x => (x.prog, x.parent, x.pc, x.left, x.waiting, x.kids, x.started, ())
  | 8 => fun x => (x.kind, x.line, x.q.top, x.q.bottom, x.q.ring, x.q.cap, x.a, x.b, x.d, x.i, x.j, x.n, x.t, x.u, x.v, x.w, x.x, x.l, ())
  | 9 => fun x => (x.cells, x.last.kind, x.last.cell, x.last.old, x.last.new, x.count, ())
  | 10 => fun x => (x.done, x.code, x.value, ())
  | 11 => fun x => (x.f, x.over, x.code, x.value, ())
  | 12 => fun x => (x.c.workers, x.c.levels, x.c.classes, x.c.tasks, x.c.deque, x.c.heap, x.c.batch, x.c.age, x.c.patience, x.c.progs, x.c.subs, x.m.cells, x.m.last.kind, x.m.last.cell, x.m.last.old, x.m.last.new, x.m.count, x.now, x.draw, x.recs, x.evs, ())
  | 13 => fun x => (x.workers, x.levels, x.classes, x.tasks, x.deque, x.heap, x.batch, x.age, x.patience, x.progs, x.subs, ())
  | 14 => fun x => (x.top, x.bottom, x.ring, x.cap, ())
  | 15 => fun x => (x, ())
  | 16 => fun x => (x.e, x.m, x.n, x.stamps, x.last.kind, x.last.cell, x.last.old, x.last.new, ())
  | 17 => fun x => (x, ())
  | 18 => fun x => (x, ())
  | 19 => fun x => (x.inn, x.out, x.at_, x.bad, ())
  | 20 => fun x => (x.workers, x.levels, x.classes, x.tasks, x.deque, x.heap, x.batch, x.age, x.patience, x.progs, x.subs, ())
  | 21 => fun x => (x.acc, x.rej, x.spa, x.ref, x.sta, x.fin, x.ste, x.ski, x.boo, x.age, x.par, x.lat, x.wor, ())
  | 22 => fun x => (x, ())
  | _ + 23 => fun _ => ()
def ofR : (c : Nat) → HL TR Unit (shR c) → TR c
  | 0 => fun p => p.1
  | 1 => fun p => p.1
  | 2 => fun ⟨a, b, c, d, e, _⟩ => ⟨a, b, c, d, e⟩
  | 3 => fun ⟨a, b, c, _⟩ => ⟨a, b, c⟩
  | 4 => fun ⟨a, b, c, _⟩ => ⟨a, b, c⟩
  | 5 => fun ⟨a, b, _⟩ => ⟨a, b⟩
  | 6 => fun ⟨z, a, b, c, d, e, _⟩ => ⟨z, ⟨a, b, c, d, e⟩⟩
  | 7 => fun ⟨a, b, c, d, e, f, g, _⟩ => ⟨a, b, c, d, e, f, g⟩
  | 8 => fun ⟨a, b, q1, q2, q3, q4, c, d, e, f, g, h, i, j, k, l, m, n, _⟩ => ⟨a, b, ⟨q1, q2, q3, q4⟩, c, d, e, f, g, h, i, j, k, l, m, n⟩
  | 9 => fun ⟨a, b, c, d, e, f, _⟩ => ⟨a, ⟨b, c, d, e⟩, f⟩
  | 10 => fun ⟨a, b, c, _⟩ => ⟨a, b, c⟩
  | 11 => fun ⟨a, b, c, d, _⟩ => ⟨a, b, c, d⟩
  | 12 => fun ⟨a1, a2, a3, a4, a5, a6, a7, a8, a9, a10, a11, b1, b2, b3, b4, b5, b6, c, d, e, f, _⟩ => ⟨⟨a1, a2, a3, a4, a5, a6, a7, a8, a9, a10, a11⟩, ⟨b1, ⟨b2, b3, b4, b5⟩, b6⟩, c, d, e, f⟩
  | 13 => fun ⟨a1, a2, a3, a4, a5, a6, a7, a8, a9, a10, a11, _⟩ => ⟨a1, a2, a3, a4, a5, a6, a7, a8, a9, a10, a11⟩
  | 14 => fun ⟨a, b, c, d, _⟩ => ⟨a, b, c, d⟩
  | 15 => fun p => p.1
  | 16 => fun ⟨a, b, c, d, l1, l2, l3, l4, _⟩ => ⟨a, b, c, d, ⟨l1, l2, l3, l4⟩⟩
  | 17 => fun p => p.1
  | 18 => fun p => p.1
  | 19 => fun ⟨a, b, c, d, _⟩ => ⟨a, b, c, d⟩
  | 20 => fun ⟨a1, a2, a3, a4, a5, a6, a7, a8, a9, a10, a11, _⟩ => ⟨a1, a2, a3, a4, a5, a6, a7, a8, a9, a10, a11⟩
  | 21 => fun ⟨a0, a1, a2, a3, a4, a5, a6, a7, a8, a9, a10, a11, a12, _⟩ => ⟨a0, a1, a2, a3, a4, a5, a6, a7, a8, a9, a10, a11, a12⟩
  | 22 => fun p => p.1
  | _ + 23 => fun _ => ()
def dfR : (c : Nat) → TR c
  | 0 => (default : Int)
  | 1 => (default : Int)
  | 2 => (default : Ev)
  | 3 => (default : Ins)
  | 4 => (default : Sub)
  | 5 => (default : EntV)
  | 6 => ⟨0, default⟩
  | 7 => (default : RecV)
  | 8 => (default : FrV)
  | 9 => (default : MemV)
  | 10 => (default : ResV)
  | 11 => ⟨[], false, 0, 0⟩
  | 12 => ⟨⟨0, 0, 0, 0, 0, 0, 0, 0, 0, [], []⟩, default, 0, 0, [], []⟩
  | 13 => ⟨0, 0, 0, 0, 0, 0, 0, 0, 0, [], []⟩
  | 14 => (default : QV)
  | 15 => ⟨[], false, 0, 0⟩
  | 16 => ⟨⟨⟨0, 0, 0, 0, 0, 0, 0, 0, 0, [], []⟩, default, 0, 0, [], []⟩, [], 0, [], default⟩
  | 17 => (default : Int)
  | 18 => []
  | 19 => ⟨[], [], 0, false⟩
  | 20 => ⟨0, 0, 0, 0, 0, 0, 0, 0, 0, [], []⟩
  | 21 => ⟨0, 0, 0, 0, 0, 0, 0, 0, 0, 0, 0, 0, 0⟩
  | 22 => []
  | _ + 23 => ()
abbrev atK0 (xs : List Int) (i : Int) : Int := atL (dfR 0 : TR 0) xs i
abbrev atK1 (xs : List Int) (i : Int) : Int := atL (dfR 1 : TR 1) xs i
abbrev atK3 (xs : List Ins) (i : Int) : Ins := atL (dfR 3 : TR 3) xs i
abbrev atK4 (xs : List Sub) (i : Int) : Sub := atL (dfR 4 : TR 4) xs i
abbrev atK5 (xs : List EntV) (i : Int) : EntV := atL (dfR 5 : TR 5) xs i
abbrev atK7 (xs : List RecV) (i : Int) : RecV := atL (dfR 7 : TR 7) xs i
abbrev atK8 (xs : List FrV) (i : Int) : FrV := atL (dfR 8 : TR 8) xs i
abbrev atK17 (xs : List Int) (i : Int) : Int := atL (dfR 17 : TR 17) xs i
abbrev atK15 (xs : List MaV) (i : Int) : MaV := atL (dfR 15 : TR 15) xs i
theorem toR_ofR : ∀ c p, toR c (ofR c p) = p
  | 0, _ => rfl
  | 1, _ => rfl
  | 2, _ => rfl
  | 3, _ => rfl
  | 4, _ => rfl
  | 5, _ => rfl
  | 6, _ => rfl
  | 7, _ => rfl
  | 8, _ => rfl
  | 9, _ => rfl
  | 10, _ => rfl
  | 11, _ => rfl
  | 12, _ => rfl
  | 13, _ => rfl
  | 14, _ => rfl
  | 15, _ => rfl
  | 16, _ => rfl
  | 17, _ => rfl
  | 18, _ => rfl
  | 19, _ => rfl
  | 20, _ => rfl
  | 21, _ => rfl
  | 22, _ => rfl
  | _ + 23, _ => rfl
def lsR : (c c' : Nat) → Option (PLift (TR c' = List (TR c)))
  | 3, 18 => some ⟨rfl⟩
  | 1, 22 => some ⟨rfl⟩
  | _, _ => none
theorem lsR_ok : ∀ c c' h, lsR c c' = some h → ∀ x, vwP TR Unit (shR c') (toR c' x) = [.ro c (h.down ▸ x)] := by
  intro c c' h hl x
  unfold lsR at hl
  split at hl
  · rfl
  · rfl
  · cases hl
def SR (tk : TypeId → Option Nat) : Shp := { T := TR, M := Unit, sh := shR, to_ := toR, of := ofR, ok := toR_ofR, df := dfR, tid := fun _ => 0, tk := tk, spl := fun _ => none, nilM := (), nilM_ok := rfl, mkM := fun _ _ => none, mkM_ok := fun _ _ _ h => (by cases h), kd := fun _ => none, kd_ok := fun _ _ h => (by cases h), ls := lsR, ls_ok := lsR_ok }
end
section
open Go Go.RowKit
/-- Two lists have the same things, in other orders: counted. -/
theorem perm_cnt {α : Type _} {l m : List α} (h : ∀ (f : List α → Nat) (g : α → Nat), (∀ x y, f (x ++ y) = f x + f y) → (∀ a x, f (a :: x) = g a + f x) → f [] = 0 → f l = f m) : l.Perm m := by
  classical
  rw [List.perm_iff_count]
  intro a
  refine h (fun l => l.count a) (fun x => if x == a then 1 else 0) (fun x y => List.count_append) (fun b x => ?_) rfl
  simp only [List.count_cons]; omega
theorem topFs_map {T : Nat → Type} {M : Type} : ∀ l : List (Fl T M), topFs (l.map (Fd.f : Fl T M → Fd T M)) = 0
  | [] => rfl
  | _ :: l => by simp only [List.map_cons, topFs, topFs_map l, topF]; rfl
theorem sat_wrapN {B : Nat} {w : World} {N L : List SProp} {A : SProp} (f : ∀ h, star N h → A h) (s : Sat B w (N ++ L)) : Sat B w (A :: L) := by
  obtain ⟨h, Hh, hs⟩ := s
  obtain ⟨k1, k2, a, e, g1, g2⟩ := star_append.1 hs
  exact ⟨h, Hh, k1, k2, a, e, f _ g1, g2⟩
section
variable (S : Shp)
/-! ### Values from data -/
def chL (n : Nat) : Option (Ch S.T S.M) → List (Nat × Ch S.T S.M)
  | none => []
  | some c => [(n, c)]
def opL : Nat → List (Fl S.T S.M) → List V × List (Nat × Ch S.T S.M)
  | _, [] => ([], [])
  | n, f :: l => ((opF S.kt.vw n (.f f)).1 :: (opL (n + 1) l).1, chL S n (opF S.kt.vw n (.f f)).2 ++ (opL (n + 1) l).2)
def dfS : (s : Sh) → shT S.T S.M s
  | .i _ => (0 : Int)
  | .b => false
  | .own c => S.df c
  | .row _ => []
  | .ro _ => []
  | .rr _ => []
  | .mach => S.nilM
def asm1 (H : S.kt.H) (s : Sh) (v : V) : Option (shT S.T S.M s × S.kt.H) :=
  match asm S.kt H (vw1 S.T S.M s (dfS S s)) v with
  | some (f, H') => match bk1 S.T S.M s f with
    | some x => some (x, H')
    | none => none
  | none => none
/-- A list that is set aside may be read. -/
def roZ (Z : S.kt.H) (s : Sh) (v : V) : Option (shT S.T S.M s) :=
  match s with
  | .ro c => match v with
    | .sl id => match get Z id with
      | some (.ro c' xs) => castL c' c xs
      | _ => none
    | _ => none
  | _ => none
def asmZ (Z H : S.kt.H) (s : Sh) (v : V) : Option (shT S.T S.M s × S.kt.H) :=
  match asm1 S H s v with
  | some r => some r
  | none => match roZ S Z s v with
    | some x => some (x, H)
    | none => none
end
section
variable {S : Shp} {B : Nat} {w : World}
theorem dHa {ρ : Env} (H H' : List (Nat × Ch S.T S.M)) : dH S.kt ρ (H ++ H') = dH S.kt ρ H ++ dH S.kt ρ H' := by simp [dH]
/-- One field is opened. -/
theorem op1_ok {n : Nat} {f : Fl S.T S.M} {v : Value} {ρ : Env} {Y : List SProp} {X : Env → List SProp} (hX : ∀ ρ ρ', Agree n ρ ρ' → X ρ = X ρ') (s : Sat B w (pcS S.kt f v :: (Y ++ X ρ))) :
    ∃ ρ', Agree n ρ ρ' ∧ v = denV ρ' (opF S.kt.vw n (.f f)).1 ∧ Sat B w (Y ++ (dH S.kt ρ' (chL S n (opF S.kt.vw n (.f f)).2) ++ X ρ')) := by
  obtain ⟨h, Hh, k1, k2, a, e, hA, hL⟩ := s
  obtain ⟨ρ', ha, hv, hd⟩ := opF_ok (K := S.kt) (ρ := ρ) (n := n) (f := .f f) (Nat.zero_le _) hA
  refine ⟨ρ', ha, hv, ?_⟩
  rw [hX ρ ρ' ha] at hL
  cases hc : (opF S.kt.vw n (.f f)).2 with
  | none =>
    have : Sat B w (pcS S.kt f v :: (Y ++ X ρ')) := ⟨h, Hh, k1, k2, a, e, hA, hL⟩
    exact this.imp Ent.drop
  | some c =>
    rw [hc] at hd
    have : Sat B w (denC S.kt ρ' n c :: (Y ++ X ρ')) := ⟨h, Hh, k1, k2, a, e, hd, hL⟩
    exact this.perm (List.perm_middle (l₁ := Y)).symm
theorem chL_top {n : Nat} {f : Fl S.T S.M} {ρ ρ' : Env} (h : Agree (n + 1) ρ ρ') : dH S.kt ρ (chL S n (opF S.kt.vw n (.f f)).2) = dH S.kt ρ' (chL S n (opF S.kt.vw n (.f f)).2) := by
  cases hc : (opF S.kt.vw n (.f f)).2 with
  | none => rfl
  | some c =>
    have := (opF_top (K := S.kt) (n := n) (f := .f f) (Nat.zero_le _)).2 c hc
    refine dH_agree h _ ?_
    exact Nat.max_le.2 ⟨Nat.max_le.2 ⟨Nat.le_refl _, Nat.le_succ_of_le this⟩, Nat.zero_le _⟩
theorem opL_agree : ∀ {l : List (Fl S.T S.M)} {n : Nat} {ρ ρ' : Env}, Agree (n + l.length) ρ ρ' → denVs ρ (opL S n l).1 = denVs ρ' (opL S n l).1 ∧ dH S.kt ρ (opL S n l).2 = dH S.kt ρ' (opL S n l).2
  | [], _, _, _, _ => ⟨rfl, rfl⟩
  | f :: l, n, ρ, ρ', a => by
    have a' : Agree (n + 1 + l.length) ρ ρ' := a.le (by simp only [List.length_cons]; omega)
    obtain ⟨t3, t4⟩ := opL_agree a'
    have htop := (opF_top (K := S.kt) (n := n) (f := .f f) (Nat.zero_le _)).1
    simp only [opL, denVs, dHa]
    rw [denV_agree (a.le (by simp only [List.length_cons]; omega)) _ htop, t3, chL_top (a.le (by simp only [List.length_cons]; omega)), t4]
    exact ⟨rfl, rfl⟩
theorem opL_ok : ∀ {l : List (Fl S.T S.M)} {n : Nat} {us : List Value} {ρ : Env} {Y : List SProp} {X : Env → List SProp}, (∀ ρ ρ', Agree n ρ ρ' → X ρ = X ρ') → Sat B w (fsS (pcS S.kt) l us ++ (Y ++ X ρ)) →
    ∃ ρ', Agree n ρ ρ' ∧ us = denVs ρ' (opL S n l).1 ∧ Sat B w (Y ++ (dH S.kt ρ' (opL S n l).2 ++ X ρ'))
  | [], n, us, ρ, Y, X, hX, s => by
    have := sat_len (pc := pcS S.kt) (A := fun _ => True) (sat_pureI (p := fun _ => True) s fun _ => trivial)
    cases us with
    | nil => exact ⟨ρ, Agree.refl _ _, rfl, s⟩
    | cons u us => cases this
  | f :: l, n, us, ρ, Y, X, hX, s => by
    have hlen := sat_len (pc := pcS S.kt) (A := fun _ => True) (sat_pureI (p := fun _ => True) s fun _ => trivial)
    cases us with
    | nil => cases hlen
    | cons u us =>
      obtain ⟨ρ1, a1, e1, s1⟩ := op1_ok (Y := fsS (pcS S.kt) l us ++ Y) (X := X) hX (by
        rw [List.append_assoc]; exact s)
      have hX1 : ∀ ρ ρ', Agree (n + 1) ρ ρ' → (fun ρ => dH S.kt ρ (chL S n (opF S.kt.vw n (.f f)).2) ++ X ρ) ρ = (fun ρ => dH S.kt ρ (chL S n (opF S.kt.vw n (.f f)).2) ++ X ρ) ρ' := fun ρ ρ' h => by
        show _ ++ _ = _ ++ _
        rw [chL_top h, hX _ _ (h.le (Nat.le_succ n))]
      rw [List.append_assoc] at s1
      obtain ⟨ρ2, a2, e2, s2⟩ := opL_ok (n := n + 1) (X := fun ρ => dH S.kt ρ (chL S n (opF S.kt.vw n (.f f)).2) ++ X ρ) hX1 s1
      have htop := (opF_top (K := S.kt) (n := n) (f := .f f) (Nat.zero_le _)).1
      refine ⟨ρ2, a1.trans a2 (Nat.le_succ n), ?_, ?_⟩
      · simp only [opL, denVs]
        rw [e1, ← e2, denV_agree a2 _ htop]
      · simp only [opL, dHa]
        refine s2.perm (List.Perm.append_left _ ?_)
        rw [List.append_assoc]
        exact permS _ _ _
theorem hX_ch {n : Nat} {f : Fl S.T S.M} {X : Env → List SProp} (hX : ∀ ρ ρ', Agree n ρ ρ' → X ρ = X ρ') : ∀ ρ ρ', Agree (n + 1) ρ ρ' → (fun ρ => dH S.kt ρ (chL S n (opF S.kt.vw n (.f f)).2) ++ X ρ) ρ = (fun ρ => dH S.kt ρ (chL S n (opF S.kt.vw n (.f f)).2) ++ X ρ) ρ' := fun ρ ρ' h => by
  show _ ++ _ = _ ++ _
  rw [chL_top h, hX _ _ (h.le (Nat.le_succ n))]
theorem hX_op {n m : Nat} {l : List (Fl S.T S.M)} (hm : l.length = m) {X : Env → List SProp} (hX : ∀ ρ ρ', Agree n ρ ρ' → X ρ = X ρ') : ∀ ρ ρ', Agree (n + m) ρ ρ' → (fun ρ => dH S.kt ρ (opL S n l).2 ++ X ρ) ρ = (fun ρ => dH S.kt ρ (opL S n l).2 ++ X ρ) ρ' := fun ρ ρ' h => by
  subst hm
  show _ ++ _ = _ ++ _
  rw [(opL_agree h).2, hX _ _ (h.le (Nat.le_add_right ..))]
theorem asm1_ok {H H' : S.kt.H} {s0 : Sh} {v : V} {x : shT S.T S.M s0} (h : asm1 S H s0 v = some (x, H')) {ρ : Env} {X : List SProp} (s : Sat B w (dH S.kt ρ H ++ X)) : Sat B w (pcS S.kt (vw1 S.T S.M s0 x) (denV ρ v) :: (dH S.kt ρ H' ++ X)) := by
  unfold asm1 at h
  split at h
  · rename_i f H1 hf
    split at h
    · rename_i y hy
      cases h
      rw [bk1_ok _ _ hy]
      exact asm_ok _ _ _ _ _ hf ρ X B w s
    · cases h
  · cases h
end
section
variable {S : Shp} {B : Nat} {w : World} {ρ : Env}
/-- What can only be read stays. -/
theorem ro_keep {id c : Nat} {xs : List (S.T c)} {H : S.kt.H} (hg : get H id = some (.ro c xs)) {X : List SProp} (s : Sat B w (dH S.kt ρ H ++ X)) : Sat B w (pcS S.kt (.ro c xs) (denV ρ (.sl id)) :: (dH S.kt ρ H ++ X)) := by
  have hv := sl_fact (K := S.kt) s (.inr hg)
  obtain ⟨h0, H0, t0⟩ := s
  refine ⟨h0, H0, ?_⟩
  obtain ⟨j1, j2, a1, e1, ⟨_, m2⟩, mL⟩ := ent_get (ρ := ρ) hg h0 t0
  obtain ⟨p, hp, hΦ⟩ := m2
  have hpp : ∀ b o x, p b o = some x → (∃ v, x = .look v) ∧ h0 b o = some x := fun b o x hx => ⟨(hp b o x hx).1, by rw [e1]; unfold join; rw [(hp b o x hx).2]⟩
  refine ⟨p, h0, fun b o => ?_, ?_, pcS_iff.2 (show pcW S.kt (obS S.kt) (rwS S.kt) (.ro c xs) (denV ρ (.sl id)) p from ⟨_, _, hv, p, fun b o x hx => ⟨(hpp b o x hx).1, hx⟩, hΦ⟩), t0⟩
  · cases hpb : p b o with
    | none => exact .inl rfl
    | some x =>
      obtain ⟨⟨v, rfl⟩, h2⟩ := hpp b o x hpb
      exact .inr (.inr ⟨v, rfl, h2⟩)
  · funext b o
    unfold join
    cases hpb : p b o with
    | none => rfl
    | some x => exact (hpp b o x hpb).2
theorem asmZ_ok {Z H H' : S.kt.H} {s0 : Sh} {v : V} {x : shT S.T S.M s0} (h : asmZ S Z H s0 v = some (x, H')) {X : List SProp} (s : Sat B w (dH S.kt ρ H ++ (dH S.kt ρ Z ++ X))) : Sat B w (pcS S.kt (vw1 S.T S.M s0 x) (denV ρ v) :: (dH S.kt ρ H' ++ (dH S.kt ρ Z ++ X))) := by
  unfold asmZ at h
  split at h
  · rename_i h1; cases h; exact asm1_ok h1 s
  · split at h
    · rename_i y hy
      cases h
      cases s0 with
      | ro c =>
        cases v with
        | sl id =>
          have hy' : (match get Z id with | some (.ro c' xs) => castL c' c xs | _ => none) = some x := hy
          cases hg : get Z id with
          | none => rw [hg] at hy'; exact absurd hy' (by simp)
          | some ch =>
            rw [hg] at hy'
            cases ch with
            | ro c' xs =>
              obtain ⟨e, h2⟩ := castL_ok hy'
              subst e
              subst h2
              have s1 : Sat B w (dH S.kt ρ Z ++ (dH S.kt ρ H ++ X)) := s.perm (permS _ _ _)
              exact (ro_keep hg s1).perm (List.Perm.cons _ (permS _ _ _))
            | _ => exact absurd hy' (by simp)
        | _ => exact (by have hy' : (none : Option _) = some x := hy; cases hy')
      | _ => exact (by have hy' : (none : Option _) = some x := hy; cases hy')
    · cases h
end
end
section
open Go Go.RowKit
inductive Itm where
  | rg (t : Nat) (s : Sh)
  | ob (id c : Nat)
  | cs (id : Nat) (l : List Sh)
section
variable (S : Shp)
def itT : Itm → Type
  | .rg _ s => shT S.T S.M s
  | .ob _ c => S.T c
  | .cs _ l => HL S.T S.M l
def TupI : List Itm → Type
  | [] => Unit
  | i :: l => itT S i × TupI l
def itB : (l : List Itm) → TupI S l → Nat → RegL × List (Nat × Ch S.T S.M) × Nat
  | [], _, n => ([], [], n)
  | .rg t s :: l, x, n => ((t, (opF S.kt.vw n (.f (vw1 S.T S.M s x.1))).1) :: (itB l x.2 (n + 1)).1, chL S n (opF S.kt.vw n (.f (vw1 S.T S.M s x.1))).2 ++ (itB l x.2 (n + 1)).2.1, (itB l x.2 (n + 1)).2.2)
  | .ob id c :: l, x, n => ((itB l x.2 n).1, (id, .cells ((S.kt.vw c x.1).map .f)) :: (itB l x.2 n).2.1, (itB l x.2 n).2.2)
  | .cs id l0 :: l, x, n => ((itB l x.2 n).1, (id, .cells ((vwP S.T S.M l0 x.1).map .f)) :: (itB l x.2 n).2.1, (itB l x.2 n).2.2)
def dfP : (l : List Sh) → HL S.T S.M l
  | [] => ()
  | s :: l => (dfS S s, dfP l)
def itA (n0 : Nat) (Z : S.kt.H) : (l : List Itm) → RegL → S.kt.H → Option (TupI S l × S.kt.H)
  | [], _, H => some ((), H)
  | .rg t s :: l, R, H => match get R t with
    | some v => match asmZ S Z H s v with
      | some (x, H1) => match itA n0 Z l R H1 with
        | some (r, H2) => some ((x, r), H2)
        | none => none
      | none => none
    | none => none
  | .ob id c :: l, R, H => match Nat.blt id n0 with
    | true => match asm1 S H (.own c) (.ptr id 0) with
      | some (x, H1) => match itA n0 Z l R H1 with
        | some (r, H2) => some ((x, r), H2)
        | none => none
      | none => none
    | false => none
  | .cs id l0 :: l, R, H => match Nat.blt id n0 with
    | true => match get H id with
      | some (.cells fs) => match asmL S.kt (asm S.kt) (del H id) (vwP S.T S.M l0 (dfP S l0)) fs with
        | some (fl, H1) => match bkP S.T S.M l0 fl with
          | some x => match itA n0 Z l R H1 with
            | some (r, H2) => some ((x, r), H2)
            | none => none
          | none => none
        | none => none
      | _ => none
    | false => none
/-- What is said of the registers and the memory. -/
def IS (ρ : Env) (a : Act) : (l : List Itm) → TupI S l → List SProp
  | [], _ => []
  | .rg t s :: l, x => (fun h => ∃ v, a.tmps[t]? = some v ∧ pcS S.kt (vw1 S.T S.M s x.1) v h) :: IS ρ a l x.2
  | .ob id c :: l, x => obS S.kt c x.1 (ρ.p id) :: IS ρ a l x.2
  | .cs id l0 :: l, x => exL (fun vs : List Value => pts (ρ.p id).1 (ρ.p id).2 vs :: fsS (pcS S.kt) (vwP S.T S.M l0 x.1) vs) :: IS ρ a l x.2
/-- The numbers of the objects. -/
def itOk (n0 : Nat) : List Itm → Bool
  | [] => true
  | .rg .. :: l => itOk n0 l
  | .ob id _ :: l => Nat.blt id n0 && itOk n0 l
  | .cs id _ :: l => Nat.blt id n0 && itOk n0 l
end
section
variable {S : Shp} {B : Nat} {w : World} {nt : Nat} {a : Act}
theorem itA_ok {n0 : Nat} {Z : S.kt.H} {ρ0 ρ : Env} (ha : Agree n0 ρ0 ρ) : ∀ {l : List Itm} {R : RegL} {H H' : S.kt.H} {x : TupI S l}, itA S n0 Z l R H = some (x, H') → Regs nt a (dR ρ R) → ∀ {X : List SProp}, Sat B w (dH S.kt ρ H ++ (dH S.kt ρ Z ++ X)) →
    itOk n0 l = true ∧ Sat B w (IS S ρ0 a l x ++ (dH S.kt ρ H' ++ (dH S.kt ρ Z ++ X)))
  | [], R, H, H', x, h, r, X, s => by cases h; exact ⟨rfl, s⟩
  | .rg t s0 :: l, R, H, H', x, h, r, X, s => by
    unfold itA at h
    split at h
    · rename_i v hv
      split at h
      · rename_i y H1 h1
        split at h
        · rename_i q H2 h2
          cases h
          have s1 := asmZ_ok h1 s
          have hreg := r.has _ (dR_mem (ρ := ρ) hv)
          obtain ⟨ok, s2⟩ := itA_ok ha h2 r (X := pcS S.kt (vw1 S.T S.M s0 y) (denV ρ v) :: X) (s1.perm (perm_cnt fun f g h1 h2 h3 => by simp only [h1, h2, h3]; omega))
          refine ⟨ok, ?_⟩
          have s3 := s2.perm (show List.Perm _ (pcS S.kt (vw1 S.T S.M s0 y) (denV ρ v) :: (IS S ρ0 a l q ++ (dH S.kt ρ H' ++ (dH S.kt ρ Z ++ X)))) from perm_cnt fun f g h1 h2 h3 => by simp only [h1, h2, h3]; omega)
          exact sat_head (fun k hk => ⟨_, hreg, hk⟩) s3
        · cases h
      · cases h
    · cases h
  | .ob id c :: l, R, H, H', x, h, r, X, s => by
    unfold itA at h
    split at h
    · rename_i hid
      split at h
      · rename_i y H1 h1
        split at h
        · rename_i q H2 h2
          cases h
          have hid' : id < n0 := Nat.le_of_ble_eq_true hid
          have s1 := asm1_ok h1 s
          have s1' : Sat B w (obS S.kt c y (ρ.p id) :: (dH S.kt ρ H1 ++ (dH S.kt ρ Z ++ X))) := sat_head (fun k hk => by
            have hk' : pcS S.kt (.own c y) (denV ρ (.ptr id 0)) k := hk
            rw [pcS_iff] at hk'
            obtain ⟨⟨a', b'⟩, e, h⟩ := hk'
            simp only [denV, Nat.add_zero] at e
            injection e with e
            injection e with e
            injection e with e1 e2 _
            have : ρ.p id = (a', b') := Prod.ext e1 e2
            rw [this]; exact h) s1
          obtain ⟨ok, s2⟩ := itA_ok ha h2 r (X := obS S.kt c y (ρ.p id) :: X) (s1'.perm (perm_cnt fun f g h1 h2 h3 => by simp only [h1, h2, h3]; omega))
          refine ⟨by simp [itOk, hid, ok], ?_⟩
          have s3 := s2.perm (show List.Perm _ (obS S.kt c y (ρ.p id) :: (IS S ρ0 a l q ++ (dH S.kt ρ H' ++ (dH S.kt ρ Z ++ X)))) from perm_cnt fun f g h1 h2 h3 => by simp only [h1, h2, h3]; omega)
          rw [← (ha id hid').1] at s3
          exact s3
        · cases h
      · cases h
    · cases h
  | .cs id l0 :: l, R, H, H', x, h, r, X, s => by
    unfold itA at h
    split at h
    · rename_i hid
      split at h
      · rename_i fs hg
        split at h
        · rename_i fl H1 h1
          split at h
          · rename_i y hy
            split at h
            · rename_i q H2 h2
              cases h
              have hid' : id < n0 := Nat.le_of_ble_eq_true hid
              obtain ⟨vs, s1⟩ := sat_open (s.imp (ent_get (ρ := ρ) hg))
              have s2 : Sat B w (fsS (fS S.kt ρ) fs vs ++ (dH S.kt ρ (del H id) ++ (pts (ρ.p id).1 (ρ.p id).2 vs :: (dH S.kt ρ Z ++ X)))) := s1.perm (perm_cnt fun f g h1 h2 h3 => by simp only [List.cons_append, h1, h2, h3]; omega)
              have s3 := asmL_ok asm_ok h1 s2
              rw [← bkP_ok _ _ hy] at s3
              have s4 : Sat B w ((pts (ρ.p id).1 (ρ.p id).2 vs :: fsS (pcS S.kt) (vwP S.T S.M l0 y) vs) ++ (dH S.kt ρ H1 ++ (dH S.kt ρ Z ++ X))) := s3.perm (perm_cnt fun f g h1 h2 h3 => by simp only [List.cons_append, h1, h2, h3]; omega)
              have s5 := sat_wrapN (A := exL (fun vs : List Value => pts (ρ.p id).1 (ρ.p id).2 vs :: fsS (pcS S.kt) (vwP S.T S.M l0 y) vs)) (fun k hk => ⟨vs, hk⟩) s4
              obtain ⟨ok, s6⟩ := itA_ok ha h2 r (X := exL (fun vs : List Value => pts (ρ.p id).1 (ρ.p id).2 vs :: fsS (pcS S.kt) (vwP S.T S.M l0 y) vs) :: X) (s5.perm (perm_cnt fun f g h1 h2 h3 => by simp only [h1, h2, h3]; omega))
              refine ⟨by simp [itOk, hid, ok], ?_⟩
              have s7 := s6.perm (show List.Perm _ (exL (fun vs : List Value => pts (ρ.p id).1 (ρ.p id).2 vs :: fsS (pcS S.kt) (vwP S.T S.M l0 y) vs) :: (IS S ρ0 a l q ++ (dH S.kt ρ H' ++ (dH S.kt ρ Z ++ X)))) from perm_cnt fun f g h1 h2 h3 => by simp only [h1, h2, h3]; omega)
              rw [← (ha id hid').1] at s7
              exact s7
            · cases h
          · cases h
        · cases h
      · cases h
    · cases h
theorem cs_cells {ρ : Env} {id : Nat} (fl : List (Fl S.T S.M)) {k : Hp} (h : exL (fun vs : List Value => pts (ρ.p id).1 (ρ.p id).2 vs :: fsS (pcS S.kt) fl vs) k) : denC S.kt ρ id (.cells (fl.map .f)) k := by
  obtain ⟨vs, hk⟩ := h
  refine ⟨vs, ?_⟩
  show star (pts (ρ.p id).1 (ρ.p id).2 vs :: fsS (fS S.kt ρ) (fl.map .f) vs) k
  rw [fsS_map (pcS S.kt) _ (fun x v => rfl)]; exact hk
theorem ob_cells {ρ : Env} {id c : Nat} (y : S.T c) {k : Hp} (h : obS S.kt c y (ρ.p id) k) : denC S.kt ρ id (.cells ((S.kt.vw c y).map .f)) k := cs_cells _ (obS_iff.1 h)
theorem itB_ok {n0 : Nat} {ρ0 : Env} : ∀ {l : List Itm} {x : TupI S l} {n : Nat} {ρ : Env} {X : Env → List SProp}, itOk n0 l = true → n0 ≤ n → Agree n0 ρ0 ρ → (∀ ρ ρ', Agree n ρ ρ' → X ρ = X ρ') → Sat B w (IS S ρ0 a l x ++ X ρ) →
    ∃ ρ', Agree n ρ ρ' ∧ n ≤ (itB S l x n).2.2 ∧ (∀ p ∈ dR ρ' (itB S l x n).1, a.tmps[p.1]? = some p.2) ∧ Sat B w (dH S.kt ρ' (itB S l x n).2.1 ++ X ρ')
  | [], x, n, ρ, X, _, _, _, hX, s => ⟨ρ, Agree.refl _ _, Nat.le_refl _, fun p hp => (by cases hp), s⟩
  | .rg t s0 :: l, x, n, ρ, X, ok, hn, h0, hX, s => by
    obtain ⟨v, s0'⟩ := sat_ex (A := fun v => fun h => a.tmps[t]? = some v ∧ pcS S.kt (vw1 S.T S.M s0 x.1) v h) s
    obtain ⟨hv, s1⟩ : a.tmps[t]? = some v ∧ Sat B w (pcS S.kt (vw1 S.T S.M s0 x.1) v :: (IS S ρ0 a l x.2 ++ X ρ)) := by
      obtain ⟨h, Hh, k1, k2, a', e, ⟨g1, g2⟩, hL⟩ := s0'
      exact ⟨g1, h, Hh, k1, k2, a', e, g2, hL⟩
    obtain ⟨ρ1, a1, e1, s2⟩ := op1_ok (n := n) (f := vw1 S.T S.M s0 x.1) (Y := IS S ρ0 a l x.2) hX s1
    obtain ⟨ρ2, a2, n2, r2, s3⟩ := itB_ok (l := l) (n := n + 1) ok (Nat.le_succ_of_le hn) (h0.trans (a1.le hn) (Nat.le_refl _)) (hX_ch (f := vw1 S.T S.M s0 x.1) hX) s2
    have htop := (opF_top (K := S.kt) (n := n) (f := .f (vw1 S.T S.M s0 x.1)) (Nat.zero_le _)).1
    refine ⟨ρ2, a1.trans a2 (Nat.le_succ n), Nat.le_trans (Nat.le_succ n) n2, fun p hp => ?_, ?_⟩
    · rcases List.mem_cons.1 hp with e | e
      · subst e
        simp only
        rw [← denV_agree a2 _ htop, ← e1]; exact hv
      · exact r2 p e
    · simp only [itB, dHa]
      exact s3.perm (perm_cnt fun f g h1 h2 h3 => by simp only [h1, h2, h3]; omega)
  | .ob id c :: l, x, n, ρ, X, ok, hn, h0, hX, s => by
    simp only [itOk, Bool.and_eq_true] at ok
    have hid : id < n0 := Nat.le_of_ble_eq_true ok.1
    have hX1 : ∀ ρ ρ', Agree n ρ ρ' → (fun ρ : Env => denC S.kt ρ id (.cells ((S.kt.vw c x.1).map .f)) :: X ρ) ρ = (fun ρ : Env => denC S.kt ρ id (.cells ((S.kt.vw c x.1).map .f)) :: X ρ) ρ' := fun ρ ρ' h => by
      show _ :: _ = _ :: _
      rw [hX _ _ h]
      have : denC S.kt ρ id (.cells ((S.kt.vw c x.1).map .f)) = denC S.kt ρ' id (.cells ((S.kt.vw c x.1).map .f)) := denC_agree h (by omega) _ (by rw [show topC (Ch.cells ((S.kt.vw c x.1).map Fd.f) : Ch S.T S.M) = topFs ((S.kt.vw c x.1).map Fd.f) from rfl, topFs_map]; exact Nat.zero_le _)
      rw [this]
    have s1 : Sat B w (IS S ρ0 a l x.2 ++ (denC S.kt ρ id (.cells ((S.kt.vw c x.1).map .f)) :: X ρ)) := by
      have s2 : Sat B w (obS S.kt c x.1 (ρ0.p id) :: (IS S ρ0 a l x.2 ++ X ρ)) := s
      rw [(h0 id hid).1] at s2
      have s3 : Sat B w (denC S.kt ρ id (.cells ((S.kt.vw c x.1).map .f)) :: (IS S ρ0 a l x.2 ++ X ρ)) := sat_head (fun k hk => ob_cells _ hk) s2
      exact s3.perm (List.perm_middle).symm
    obtain ⟨ρ2, a2, n2, r2, s3⟩ := itB_ok (l := l) (n := n) ok.2 hn h0 hX1 s1
    refine ⟨ρ2, a2, n2, r2, ?_⟩
    exact s3.perm (show List.Perm _ (denC S.kt ρ2 id (.cells ((S.kt.vw c x.1).map .f)) :: (dH S.kt ρ2 (itB S l x.2 n).2.1 ++ X ρ2)) from List.perm_middle)
  | .cs id l0 :: l, x, n, ρ, X, ok, hn, h0, hX, s => by
    simp only [itOk, Bool.and_eq_true] at ok
    have hid : id < n0 := Nat.le_of_ble_eq_true ok.1
    have hX1 : ∀ ρ ρ', Agree n ρ ρ' → (fun ρ : Env => denC S.kt ρ id (.cells ((vwP S.T S.M l0 x.1).map .f)) :: X ρ) ρ = (fun ρ : Env => denC S.kt ρ id (.cells ((vwP S.T S.M l0 x.1).map .f)) :: X ρ) ρ' := fun ρ ρ' h => by
      show _ :: _ = _ :: _
      rw [hX _ _ h]
      have : denC S.kt ρ id (.cells ((vwP S.T S.M l0 x.1).map .f)) = denC S.kt ρ' id (.cells ((vwP S.T S.M l0 x.1).map .f)) := denC_agree h (by omega) _ (by rw [show topC (Ch.cells ((vwP S.T S.M l0 x.1).map Fd.f) : Ch S.T S.M) = topFs ((vwP S.T S.M l0 x.1).map Fd.f) from rfl, topFs_map]; exact Nat.zero_le _)
      rw [this]
    have s1 : Sat B w (IS S ρ0 a l x.2 ++ (denC S.kt ρ id (.cells ((vwP S.T S.M l0 x.1).map .f)) :: X ρ)) := by
      have s2 : Sat B w (exL (fun vs : List Value => pts (ρ0.p id).1 (ρ0.p id).2 vs :: fsS (pcS S.kt) (vwP S.T S.M l0 x.1) vs) :: (IS S ρ0 a l x.2 ++ X ρ)) := s
      rw [(h0 id hid).1] at s2
      have s3 : Sat B w (denC S.kt ρ id (.cells ((vwP S.T S.M l0 x.1).map .f)) :: (IS S ρ0 a l x.2 ++ X ρ)) := sat_head (fun k hk => cs_cells _ hk) s2
      exact s3.perm (List.perm_middle).symm
    obtain ⟨ρ2, a2, n2, r2, s3⟩ := itB_ok (l := l) (n := n) ok.2 hn h0 hX1 s1
    refine ⟨ρ2, a2, n2, r2, ?_⟩
    exact s3.perm (show List.Perm _ (denC S.kt ρ2 id (.cells ((vwP S.T S.M l0 x.1).map .f)) :: (dH S.kt ρ2 (itB S l x.2 n).2.1 ++ X ρ2)) from List.perm_middle)
end
end
end Go.Proofs.YtpbkelpokpglaaaGreat
