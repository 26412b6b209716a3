/- The judgements of the separation logic: operations one at a time, code by its form. No program occurs here. -/
import Derived.Test.YtkfkiaieeiodnaaSl1
import Derived.OrdersIn
import Derived.TacticsIn
import Derived.StillTail
namespace Go.Proofs.Ytkfkiaieeiodnaa
open Go Go.RowKit

abbrev RList := List (Nat × Value)
structure Regs (n : Nat) (a : Act) (R : RList) : Prop where
  size : a.tmps.size = n
  defers : a.defers = []
  has : ∀ p ∈ R, a.tmps[p.1]? = some p.2
structure Sta (n B : Nat) (W : World) (R : RList) (L : List SProp) (a : Act) (w : World) : Prop where
  regs : Regs n a R
  below : Below B W w
  lo : B ≤ w.heap.size
  sat : Sat B w L
inductive EvalR (R : RList) : Operand → Value → Prop where
  | tmp {t : Nat} {v : Value} (h : (t, v) ∈ R) : EvalR R (.tmp t) v
  | const {v : Value} : EvalR R (.const v) v
  | func {f : FuncId} : EvalR R (.func f) (.func (.func f) #[] #[])
inductive EvalRs (R : RList) : List Operand → List Value → Prop where
  | nil : EvalRs R [] []
  | cons {x : Operand} {v : Value} {xs : List Operand} {vs : List Value} (h : EvalR R x v) (t : EvalRs R xs vs) : EvalRs R (x :: xs) (v :: vs)
theorem EvalR.eval {n : Nat} {a : Act} {R : RList} {x : Operand} {v : Value} (h : EvalR R x v) (r : Regs n a R) : a.eval x = v := by
  cases h with
  | tmp h => have := r.has _ h; simp only at this; simp [Act.eval, Array.getD_eq_getD_getElem?, this]
  | const => rfl
  | func => rfl
theorem EvalRs.eval {n : Nat} {a : Act} {R : RList} {xs : List Operand} {vs : List Value} (h : EvalRs R xs vs) (r : Regs n a R) : xs.map a.eval = vs := by
  induction h with
  | nil => rfl
  | cons h _ ih => rw [List.map_cons, h.eval r, ih]

inductive Pick {α : Type _} : List α → α → List α → Prop where
  | head {x : α} {l : List α} : Pick (x :: l) x l
  | tail {x y : α} {l l' : List α} (h : Pick l x l') : Pick (y :: l) x (y :: l')
theorem Pick.perm {α : Type _} {l l' : List α} {x : α} (h : Pick l x l') : l.Perm (x :: l') := by
  induction h with
  | head => exact .refl _
  | tail _ ih => exact (ih.cons _).trans (.swap ..)
theorem Pick.of_mem {α : Type _} {l : List α} {x : α} (h : x ∈ l) : ∃ l', Pick l x l' := by
  induction l with
  | nil => cases h
  | cons y l ih =>
    rcases List.mem_cons.1 h with e | e
    · subst e; exact ⟨_, .head⟩
    · obtain ⟨l', p⟩ := ih e; exact ⟨_, .tail p⟩
/-- One assertion of the list, turned in its place. -/
inductive Turn {α : Type _} : List α → α → α → List α → Prop where
  | head {x y : α} {l : List α} : Turn (x :: l) x y (y :: l)
  | tail {x y z : α} {l l' : List α} (h : Turn l x y l') : Turn (z :: l) x y (z :: l')
theorem Turn.perm {α : Type _} {l l' : List α} {x y : α} (h : Turn l x y l') : ∃ m, l.Perm (x :: m) ∧ l'.Perm (y :: m) := by
  induction h with
  | head => exact ⟨_, .refl _, .refl _⟩
  | tail _ ih => obtain ⟨m, h1, h2⟩ := ih; exact ⟨_, (h1.cons _).trans (.swap ..), (h2.cons _).trans (.swap ..)⟩
/-- Several assertions are taken out, in this order. -/
inductive Picks {α : Type _} : List α → List α → List α → Prop where
  | nil {l : List α} : Picks l [] l
  | cons {x : α} {l l' l'' xs : List α} (h : Pick l x l') (t : Picks l' xs l'') : Picks l (x :: xs) l''
theorem Picks.perm {α : Type _} {l xs l' : List α} (h : Picks l xs l') : l.Perm (xs ++ l') := by
  induction h with
  | nil => exact .refl _
  | cons h _ ih => exact h.perm.trans (ih.cons _)

def freshR (n : Nat) (R : RList) (d : Nat) : Bool := Nat.blt d n && R.all fun p => p.1 != d
def Put (n : Nat) (R : RList) (d : Option Tmp) (v : Value) (R' : RList) : Prop := ∀ a, Regs n a R → Regs n (a.put d v) R'
section
variable {n : Nat} {R R0 R' : RList} {d : Nat} {v u : Value}
theorem freshR_lt (h : freshR n R d = true) : d < n := by
  unfold freshR at h; simp only [Bool.and_eq_true] at h; exact Nat.le_of_ble_eq_true h.1
theorem freshR_ne (h : freshR n R d = true) {p : Nat × Value} (hp : p ∈ R) : p.1 ≠ d := by
  unfold freshR at h; simp only [Bool.and_eq_true, List.all_eq_true] at h
  simpa using h.2 p hp
theorem put_new (h : freshR n R d = true) : Put n R (some d) v ((d, v) :: R) := fun a r => by
  have hd := freshR_lt h
  refine ⟨by simp [Act.put, r.size], r.defers, fun p hp => ?_⟩
  rcases List.mem_cons.1 hp with e | e
  · subst e; simp [Act.put, r.size, hd]
  · have := freshR_ne h e
    simp only [Act.put]
    rw [Array.getElem?_setIfInBounds_ne (by omega)]
    exact r.has p e
theorem Regs.sub {a : Act} (r : Regs n a R) (h : ∀ p ∈ R', p ∈ R) : Regs n a R' := ⟨r.size, r.defers, fun p hp => r.has p (h p hp)⟩
theorem Regs.sub' {a : Act} (r : Regs n a R) (h : ∀ q ∈ R', ∃ p ∈ R, p.1 = q.1 ∧ p.2 = q.2) : Regs n a R' := ⟨r.size, r.defers, fun q hq => by
  obtain ⟨p, hp, e1, e2⟩ := h q hq
  rw [← e1, ← e2]; exact r.has p hp⟩
theorem put_over (hp : Pick R (d, u) R0) (h : freshR n R0 d = true) : Put n R (some d) v ((d, v) :: R0) := fun a r =>
  put_new h a (r.sub fun p hp' => hp.perm.mem_iff.2 (List.mem_cons_of_mem _ hp'))
theorem put_none : Put n R none v R := fun _ r => r
end

def Wants (ops : Array Oper) (R : RList) : Option (Nat × Bool) → Bool → Prop
  | none, b => b = true
  | some (j, c), b => ∃ o d x, ops[j]? = some o ∧ o.dst = some d ∧ (d, Value.bool x) ∈ R ∧ (x == c) = b
theorem wants_none {ops : Array Oper} {R : RList} : Wants ops R none true := rfl
theorem wants_some {ops : Array Oper} {R : RList} {j : Nat} {c x : Bool} {o : Oper} {d : Nat} (h : ops[j]? = some o) (hd : o.dst = some d) (hm : (d, Value.bool x) ∈ R) {b : Bool} (hb : (x == c) = b) : Wants ops R (some (j, c)) b := ⟨o, d, x, h, hd, hm, hb⟩
theorem Wants.spec {ops : Array Oper} {R : RList} {o : Oper} {b : Bool} (h : Wants ops R o.guard b) {n : Nat} {a : Act} (r : Regs n a R) : Region.wanted o (yielded ops a.tmps) = b := by
  unfold Region.wanted
  generalize o.guard = g at h
  cases g with
  | none => exact h.symm
  | some p =>
    obtain ⟨j, c⟩ := p
    obtain ⟨oj, d, x, h1, h2, h3, h4⟩ := h
    have h5 := r.has _ h3
    simp only at h5
    have hlt : d < a.tmps.size := (Array.getElem?_eq_some_iff.1 h5).1
    subst h4
    have h6 : a.tmps[d] = .bool x := (Array.getElem?_eq_some_iff.1 h5).2
    simp [yielded, h1, h2, h5, hlt, h6]

/-! ### The judgements -/
/-- Every function is let in; r: the round of a range over a function in which the code lies. -/
def rf (r : Option Nat) : Fence := { fn := fun _ => True, depth := none, alive := false, round := r }
section
variable (r : Option Nat) (P : Program) (ops : Array Oper) (Q : Exit → Act → World → Prop) (n B : Nat) (W : World)
/-- The world that an operation that only reads, or makes memory of its own, leaves. -/
def Cls (L : List SProp) (w : World) : Prop := Below B W w ∧ B ≤ w.heap.size ∧ Sat B w L
def OQ (o : Oper) (R : RList) (L : List SProp) (v : Value) : Prop := ∀ a w, Sta n B W R L a w → o.quietAt P a (Cls B W L) w v
/-- An operation that looks at no memory. -/
def OP (o : Oper) (R : RList) (v : Value) : Prop := ∀ a w, Regs n a R → (execOp a.eval o).run P w = .ok (.value v) w
def turnUpon {X : Type} (C : X → World → Prop) (v : X → Value) : Result Next → Prop
  | .ok (.value u) w' => ∃ x, u = v x ∧ C x w'
  | .ok .skip w' => ∃ x, v x = undef ∧ C x w'
  | .ok (.enter f args) w' => Calls P f args w' fun e w'' => ∃ x, e = .returned (v x) ∧ C x w''
  | _ => False
def OT (o : Oper) (R : RList) (L : List SProp) {X : Type} (v : X → Value) (L' : X → List SProp) : Prop :=
  ∀ a w, Sta n B W R L a w → turnUpon P (fun x w' => Cls B W (L' x) w') v ((execOp a.eval o).run P w)
def RT (l : List Oper) (R : RList) (L : List SProp) : Prop := ∀ a w, Sta n B W R L a w → wpListIn (rf r) 0 P ops Q l a w
/-- The quiet part of a region that draws its order; what follows is 'K'. -/
def QT (K : RList → Prop) (l : List Oper) (R : RList) (L : List SProp) : Prop :=
  ∀ (N : Act → Prop), (∀ R', K R' → ∀ a, Regs n a R' → N a) → ∀ a, Regs n a R → wpQuiet P ops (Cls B W L) N l a
def CT (c : Code) (R : RList) (L : List SProp) : Prop := ∀ a w, Sta n B W R L a w → c.wpIn (rf r) 0 P Q a w
def ET (e : Exit) (R : RList) (L : List SProp) : Prop := ∀ a w, Sta n B W R L a w → Q e a w
end

section
variable {r : Option Nat} {P : Program} {ops : Array Oper} {Q : Exit → Act → World → Prop} {n B : Nat} {W : World} {R R' R0 : RList} {L L' M : List SProp} {o : Oper} {v : Value} {rest : List Oper}
theorem quietAt_value {a : Act} {w : World} {C : World → Prop} (h : (execOp a.eval o).run P w = .ok (.value v) w) : o.quietAt P a C w v := by
  unfold Oper.quietAt; rw [h]; exact ⟨rfl, rfl⟩
theorem OP.q (h : OP P n o R v) : OQ P n B W o R L v := fun a w s => quietAt_value (h a w s.regs)
theorem callsIn_rf {f : FuncId} {args : Array Value} {w : World} {S : Ending → World → Prop} {k : Nat} (h : Calls P f args w S) : CallsIn (rf r) k P f args w S :=
  show CallsIn Fence.wide k P f args w S from callsIn_wide.2 h
theorem no_defer {a : Act} {w : World} (h : ∀ d w', (execOp a.eval o).run P w ≠ .ok (.defer d) w') (h' : ∀ x w', (execOp a.eval o).run P w ≠ .halt x w') : Oper.semAt r a.eval o = execOp a.eval o :=
  Oper.semAt_eq r a.eval o fun c hc => by
    have e : execOp a.eval o = (do pure (Next.defer (← resolve a.eval c o.type))) := by unfold execOp; rw [hc]
    rw [e] at h h'
    cases hr : (resolve a.eval c o.type).run P w with
    | ok d w' => exact h d w' (by rw [Sem.run_bind, hr]; rfl)
    | halt x w' => exact h' x w' (by rw [Sem.run_bind, hr]; rfl)
theorem wpIn_quiet {a : Act} {K : Act → Prop} {K' : Act → World → Prop} {Q' : Exit → Act → World → Prop} {w : World} {C : World → Prop} (hw : C w) (h : ∀ a w', C w' → K a → K' a w') (hh : o.quiet P a C K) : o.wpIn (rf r) 0 P a w K' Q' := by
  obtain ⟨v, h1, h2⟩ := hh
  have h3 := h1 w hw
  unfold Oper.quietAt at h3
  have hs : Oper.semAt r a.eval o = execOp a.eval o := no_defer (P := P) (w := w) (fun d w' e => by rw [e] at h3; exact h3) (fun x w' e => by rw [e] at h3; exact h3)
  refine ⟨fun _ _ => trivial, ?_⟩
  show Oper.uponIn (rf r) 0 P o a K' Q' ((Oper.semAt r a.eval o).run P w)
  rw [hs]
  generalize (execOp a.eval o).run P w = res at *
  cases res with
  | ok x w' =>
    cases x <;> simp only [Oper.quietUpon] at h3 <;> simp only [Oper.uponIn]
    case value u => obtain ⟨e1, e2⟩ := h3; rw [e1, e2]; exact h _ _ hw h2
    case skip => obtain ⟨e1, e2⟩ := h3; rw [e1, ← e2]; exact h _ _ hw h2
    case enter f args =>
      obtain ⟨e1, hc⟩ := h3
      rw [e1]
      refine ⟨(fun e => (by cases e)), callsIn_rf (hc.mono fun e w'' ⟨he, hw''⟩ => ?_)⟩
      subst he; exact h _ _ hw'' h2
  | halt x w' => simp only [Oper.quietUpon] at h3
theorem wpIn_turn {X : Type} {v : X → Value} {a : Act} {w : World} {C : X → World → Prop} {K' : Act → World → Prop} {Q' : Exit → Act → World → Prop} (h3 : turnUpon P C v ((execOp a.eval o).run P w)) (h : ∀ x w', C x w' → K' (a.put o.dst (v x)) w') : o.wpIn (rf r) 0 P a w K' Q' := by
  have hs : Oper.semAt r a.eval o = execOp a.eval o := no_defer (P := P) (w := w) (fun d w' e => by rw [e] at h3; exact h3) (fun x w' e => by rw [e] at h3; exact h3)
  refine ⟨fun _ _ => trivial, ?_⟩
  show Oper.uponIn (rf r) 0 P o a K' Q' ((Oper.semAt r a.eval o).run P w)
  rw [hs]
  generalize (execOp a.eval o).run P w = res at *
  cases res with
  | ok x w' =>
    cases x <;> simp only [turnUpon] at h3 <;> simp only [Oper.uponIn]
    case value u => obtain ⟨x, rfl, hc⟩ := h3; exact h _ _ hc
    case skip => obtain ⟨x, e, hc⟩ := h3; rw [← e]; exact h _ _ hc
    case enter f args =>
      refine ⟨(fun e => (by cases e)), callsIn_rf (h3.mono fun e w'' ⟨x, he, hw''⟩ => ?_)⟩
      subst he; exact h _ _ hw''
  | halt x w' => simp only [turnUpon] at h3
theorem rt_nil (h : ET Q n B W .normal R L) : RT r P ops Q n B W [] R L := fun a w s => h a w s
theorem Cls.st {a : Act} {w : World} (h : Cls B W L w) (r : Regs n a R) : Sta n B W R L a w := ⟨r, h.1, h.2.1, h.2.2⟩
theorem Sta.cls {a : Act} {w : World} (s : Sta n B W R L a w) : Cls B W L w := ⟨s.below, s.lo, s.sat⟩
theorem rt_q (h : OQ P n B W o R L v) (hg : Wants ops R o.guard true) (hp : Put n R o.dst v R') (K : RT r P ops Q n B W rest R' L) : RT r P ops Q n B W (o :: rest) R L := fun a w s => by
  unfold wpListIn
  rw [if_pos (hg.spec s.regs)]
  exact wpIn_quiet (C := Cls B W L) (K := fun a' => Regs n a' R') s.cls (fun a' w' hw' hr => K a' w' (hw'.st hr)) ⟨v, fun w' hw' => h a w' (hw'.st s.regs), hp a s.regs⟩
theorem rt_t {X : Type} {v : X → Value} {L' : X → List SProp} {R' : X → RList} (h : OT P n B W o R L v L') (hg : Wants ops R o.guard true) (hp : ∀ x, Put n R o.dst (v x) (R' x))
    (K : ∀ x, RT r P ops Q n B W rest (R' x) (L' x)) : RT r P ops Q n B W (o :: rest) R L := fun a w s => by
  unfold wpListIn
  rw [if_pos (hg.spec s.regs)]
  exact wpIn_turn (h a w s) fun x w' hw' => K x _ _ (hw'.st (hp x a s.regs))
theorem rt_skip (hg : Wants ops R o.guard false) (hp : Put n R o.dst undef R') (K : RT r P ops Q n B W rest R' L) : RT r P ops Q n B W (o :: rest) R L := fun a w s => by
  unfold wpListIn
  rw [if_neg (by rw [hg.spec s.regs]; exact Bool.false_ne_true)]
  exact ⟨fun _ _ => trivial, K _ _ (s.cls.st (hp a s.regs))⟩
theorem qt_nil {K : RList → Prop} (h : K R) : QT P ops n B W K [] R L := fun N hN a r => wpQuiet_nil (hN R h a r)
theorem qt_q {K : RList → Prop} (h : OQ P n B W o R L v) (hg : Wants ops R o.guard true) (hp : Put n R o.dst v R') (k : QT P ops n B W K rest R' L) : QT P ops n B W K (o :: rest) R L := fun N hN a r => by
  unfold wpQuiet
  rw [if_pos (hg.spec r)]
  exact ⟨v, fun w hw => h a w (hw.st r), k N hN _ (hp a r)⟩
theorem qt_skip {K : RList → Prop} (hg : Wants ops R o.guard false) (hp : Put n R o.dst undef R') (k : QT P ops n B W K rest R' L) : QT P ops n B W K (o :: rest) R L := fun N hN a r => by
  unfold wpQuiet
  rw [if_neg (by rw [hg.spec r]; exact Bool.false_ne_true)]
  exact k N hN _ (hp a r)
theorem ct_region {id : Nat} {l : List Oper} (h : RT r P l.toArray Q n B W l R L) : CT r P Q n B W (.region id l.toArray false) R L := fun a w s => wpIn_region_lit (h a w s)
theorem cls_drew {w : World} (h : Cls B W L w) : Cls B W L { w with drawn := w.drawn + 1 } :=
  ⟨h.1.drew, h.2.1, h.2.2.below ((Below.refl _ _).drew)⟩
theorem wpOpIn_quiet {i : Nat} {a : Act} {K : Act → Prop} {K' : Act → World → Prop} {Q' : Exit → Act → World → Prop} {w : World} {C : World → Prop} (hC : C w) (h : ∀ a w', C w' → K a → K' a w') (hh : qOp P ops C i K a) : wpOpIn (rf r) 0 P ops Q' i K' a w := by
  unfold qOp at hh
  unfold wpOpIn
  split
  · rename_i ho; simp only [ho] at hh; exact h _ _ hC hh
  · rename_i o ho
    simp only [ho] at hh
    split
    · rename_i hw; simp only [hw, if_true] at hh; exact wpIn_quiet hC h hh
    · rename_i hw; simp only [hw] at hh; exact ⟨fun _ _ => trivial, h _ _ hC hh⟩
theorem wpAnyIn_quiet {md : Region.Mode} {C : World → Prop} {N : Act → Prop} {Q' : Exit → Act → World → Prop} (hQ : ∀ a w, C w → N a → Q' .normal a w) : ∀ (fuel : Nat) (listed : Array Bool) (a : Act) (w : World), C w →
    wpAnyQ P md ops C N fuel listed a → wpAnyIn (rf r) 0 P md ops Q' fuel listed a w
  | 0, _, _, _, hw, h => ⟨h.1, hQ _ _ hw h.2⟩
  | fuel + 1, _, _, _, hw, h => ⟨fun h0 => hQ _ _ hw (h.1 h0), fun i hi => wpOpIn_quiet hw (fun a' w' hw' => wpAnyIn_quiet hQ fuel _ a' w' hw') (h.2 i hi)⟩
/-- A region that draws its order and is quiet as a whole. -/
theorem ct_draw {id : Nat} {l : List Oper} (hm : P.follows .mixedOrders = true) (hB : Region.lexB .any l.toArray = true) (h : QT P l.toArray n B W (fun R' => ET Q n B W .normal R' L) l R L) : CT r P Q n B W (.region id l.toArray true) R L := fun a w s => by
  simp only [Region.lexB, Bool.and_eq_true] at hB
  refine wpIn_region_any hm (wpAnyIn_quiet (C := Cls B W L) (N := fun a' => ∀ w', Cls B W L w' → Q .normal a' w') (fun _ w' hw' h => h w' hw') _ _ _ _ (cls_drew s.cls) ?_)
  have h1 := h (fun a' => ∀ w', Cls B W L w' → Q .normal a' w') (fun R' hK a' r w' hw' => hK a' w' (hw'.st r)) a s.regs
  have := wpAnyQ_lex (C := Cls B W L) (md := .any) hB.1 l.toArray.toList 0 (Array.replicate l.toArray.size false) a (by simp) (by simpa using hB.2) (by simpa using h1)
  simpa using this
theorem ct_skip (h : ET Q n B W .normal R L) : CT r P Q n B W .skip R L := fun a w s => wpIn_skip (h a w s)
theorem ct_exit {id : Nat} (h : ET Q n B W (.exit id) R L) : CT r P Q n B W (.exit id) R L := fun a w s => wpIn_exit (h a w s)
theorem ct_ret (h : ET Q n B W .ret R L) : CT r P Q n B W .ret R L := fun a w s => wpIn_ret (h a w s)
theorem ct_seq {x y : Code} (h : CT r P (Exit.then (y.wpIn (rf r) 0 P Q) Q) n B W x R L) : CT r P Q n B W (.seq x y) R L := fun a w s => wpIn_seq (h a w s)
theorem ct_block {id : Nat} {c : Code} (h : CT r P (Exit.inBlock id Q) n B W c R L) : CT r P Q n B W (.block id c) R L := fun a w s => wpIn_block (h a w s)
theorem et_then {y : Code} (h : CT r P Q n B W y R L) : ET (Exit.then (y.wpIn (rf r) 0 P Q) Q) n B W .normal R L := fun a w s => h a w s
theorem et_then_exit {N : Act → World → Prop} {id : Nat} (h : ET Q n B W (.exit id) R L) : ET (Exit.then N Q) n B W (.exit id) R L := fun a w s => h a w s
theorem et_then_ret {N : Act → World → Prop} (h : ET Q n B W .ret R L) : ET (Exit.then N Q) n B W .ret R L := fun a w s => h a w s
theorem et_block {id : Nat} (h : ET Q n B W .normal R L) : ET (Exit.inBlock id Q) n B W .normal R L := fun a w s => h a w s
theorem et_block_ret {id : Nat} (h : ET Q n B W .ret R L) : ET (Exit.inBlock id Q) n B W .ret R L := fun a w s => h a w s
theorem et_block_here {id : Nat} (h : ET Q n B W .normal R L) : ET (Exit.inBlock id Q) n B W (.exit id) R L := fun a w s => by
  unfold Exit.inBlock; simpa using h a w s
theorem et_block_past {id id' : Nat} (hne : (id' == id) = false) (h : ET Q n B W (.exit id') R L) : ET (Exit.inBlock id Q) n B W (.exit id') R L := fun a w s => by
  have : id' ≠ id := by simpa using hne
  unfold Exit.inBlock; simpa [this] using h a w s
theorem ct_if {c : Operand} {x y : Code} {p : Prop} [Decidable p] (hc : EvalR R c (.bool (decide p))) (h1 : p → CT r P Q n B W x R L) (h2 : ¬p → CT r P Q n B W y R L) : CT r P Q n B W (.cond c x y) R L := fun a w s => by
  by_cases hp : p
  · exact wpIn_cond_true ((hc.eval s.regs).trans (by simp [hp])) (h1 hp a w s)
  · exact wpIn_cond_false ((hc.eval s.regs).trans (by simp [hp])) (h2 hp a w s)
theorem ct_ifb {c : Operand} {x y : Code} {b : Bool} (hc : EvalR R c (.bool b)) (h1 : b = true → CT r P Q n B W x R L) (h2 : b = false → CT r P Q n B W y R L) : CT r P Q n B W (.cond c x y) R L := fun a w s => by
  cases b with
  | true => exact wpIn_cond_true (hc.eval s.regs) (h1 rfl a w s)
  | false => exact wpIn_cond_false (hc.eval s.regs) (h2 rfl a w s)
theorem ct_true {c : Operand} {x y : Code} (hc : EvalR R c (.bool true)) (h : CT r P Q n B W x R L) : CT r P Q n B W (.cond c x y) R L := fun a w s => wpIn_cond_true (hc.eval s.regs) (h a w s)
theorem ct_false {c : Operand} {x y : Code} (hc : EvalR R c (.bool false)) (h : CT r P Q n B W y R L) : CT r P Q n B W (.cond c x y) R L := fun a w s => wpIn_cond_false (hc.eval s.regs) (h a w s)

/-! A register's truth is decided. -/
theorem rt_case {l : List Oper} {d : Nat} {p : Prop} [Decidable p] (hm : Turn R (d, Value.bool (decide p)) (d, Value.bool true) R') (hm' : Turn R (d, Value.bool (decide p)) (d, Value.bool false) R0)
    (h1 : p → RT r P ops Q n B W l R' L) (h2 : ¬p → RT r P ops Q n B W l R0 L) : RT r P ops Q n B W l R L := fun a w s => by
  obtain ⟨m1, e1, f1⟩ := hm.perm
  obtain ⟨m2, e2, f2⟩ := hm'.perm
  by_cases hp : p
  · refine h1 hp a w ⟨s.regs.sub' ?_, s.below, s.lo, s.sat⟩
    intro q hq
    rcases List.mem_cons.1 (f1.mem_iff.1 hq) with e | e
    · exact ⟨_, e1.mem_iff.2 (List.mem_cons_self ..), by subst e; rfl, by subst e; simp [hp]⟩
    · exact ⟨_, e1.mem_iff.2 (List.mem_cons_of_mem _ e), rfl, rfl⟩
  · refine h2 hp a w ⟨s.regs.sub' ?_, s.below, s.lo, s.sat⟩
    intro q hq
    rcases List.mem_cons.1 (f2.mem_iff.1 hq) with e | e
    · exact ⟨_, e2.mem_iff.2 (List.mem_cons_self ..), by subst e; rfl, by subst e; simp [hp]⟩
    · exact ⟨_, e2.mem_iff.2 (List.mem_cons_of_mem _ e), rfl, rfl⟩
end
end Go.Proofs.Ytkfkiaieeiodnaa
