/- The program's machines, said plainly: their states, and what a step does. No program occurs here but its numbers. The program's machines do what was said plainly, 1: memory, cells, words, the machines that run none inside. The program's machines do what was said plainly, 2: probing. What a step of the program's machines leaves of the environment: at most one access, few events, records of the same number. The program's machines do what was said plainly, 3: the machines that run others inside. The program's machines do what was said plainly: a sweep. The program's machines do what was said plainly, 4: a drain. The program's machines do what was said plainly, 5: running a task: parts. The program's machines do what was said plainly, 6: running a task: lines. The program's machines do what was said plainly, 7: running a task. -/
import Derived.Test.YtlcelajkhklkbaaGreatAqan
set_option linter.all false
namespace Go.Proofs.YtlcelajkhklkbaaGreat
section
open Go Go.RowKit
inductive Rs (σ : Type) where
  | go (s : σ)
  | fin (c v : Int)
inductive OPushS where
  | l1 | l2 (b : Int) | l3 (b : Int) | l4 (b : Int)
inductive OPopS where
  | l1 | l2 (b : Int) | l3 (b t : Int) | l4 (b t : Int) | l5 (b t : Int) | l6 (b t : Int) | l7 (b t : Int) | l8 (b t : Int) | l9 (b t : Int)
inductive StealS where
  | l1 | l2 (t : Int) | l3 (t : Int) | l4 (t v : Int)
inductive ResetS where
  | l1 | l2 | l3 (b : Int) | l4 (b : Int)
inductive PublishS where
  | l1 | l2 | l3
inductive InsertS where
  | l1 | l2 (n : Int) | l3 (n i k x : Int) | l4 (n i k x : Int) | l5 (n i k x : Int) | l6 (n i k x : Int)
inductive RemoveS where
  | l1 | l2 (n : Int) | l3 (n x : Int) | l4 (n x y : Int) | l5 (n i c x y z : Int) | l6 (n i c x y z : Int) | l7 (n i c x y z : Int) | l8 (n i c x y z : Int)
inductive WakeS where
  | l1 (j : Int) | l2 (j v : Int) | l3 (j v : Int)
inductive SleepS where
  | l1 | l2 (ep : Int) | l3 (ep : Int) | l4 (ep v : Int) | l5 (ep v s : Int) | l6 (ep v s : Int) | l7 (ep v s : Int)
inductive ProbeS where
  | new | run (start next : Int) (bm : B16)
inductive RaiseS where
  | l1 (q : Int) | l2 (q : Int)
inductive LPushS where
  | new | push (s : OPushS) | set
inductive LPopS where
  | l1 (v : Int) | l2 (v : Int) (s : OPopS) | l3 (v : Int) (s : ResetS)
inductive WalkS where
  | l1 (t : Int) | raise (t : Int) (s : RaiseS) | l2 (t : Int) | push (t : Int) (s : LPushS) | l4 (t : Int)
inductive EnterS where
  | l1 | l2 | l3 | l4 (v : Int) (s : LPushS)
inductive SweepS where
  | l1 | l2 | l3 | l4 (q : Int) | l5 (q : Int) | l6 (q : Int) (s : LPushS)
inductive TakeS where
  | pop (s : LPopS) | claim (t : Int)
inductive DrainC where
  | l1 | l2 | l3 (s : RemoveS) | l4 | l5 (s : LPushS) | l6 | l7 (s : WakeS)
structure DrainS where
  x : Int
  direct : Bool
  p : Int
  last : Int
  count : Int
  c : DrainC
inductive RunC where
  | next | s2 (s : PublishS) | s3 (s : LPushS) | s4 (s : WakeS) | s5 | j2 | j3 | j4 | j5 (s : WalkS) | j6 | j7 | f2 | f3 | f4 (s : EnterS) | f5 (v : Int) (s : WakeS) | f6
structure RunS where
  stack : List Int
  id : Int
  child : Int
  level : Int
  waiter : Int
  c : RunC
inductive WorkC where
  | top | t1 (t : Int) (s : SweepS) | t2 (s : TakeS) | t3 (s : DrainS) | t4 (s : ProbeS) | t5 (s : StealS) | t6 | t7 (s : RunS) | t8 (s : SleepS) | t9 (s : ResetS)
structure WorkS where
  cursor : Int
  victim : Int
  level : Int
  x : Int
  c : WorkC
inductive ClieC where
  | n1 | a1 | n2 | n3 | n4 | n5 | n6 | a6 (s : InsertS) | n7 | n8 | n9 | a9 (s : WakeS)
structure ClieS where
  i : Int
  id : Int
  acc : Bool
  c : ClieC
def MemV.gt (m : MemV) (a : Int) : Int := if 0 ≤ a ∧ a < (m.cells.length : Int) then afD m.cells a else 0
def MemV.pt (m : MemV) (k a v : Int) : MemV := if 0 ≤ a ∧ a < (m.cells.length : Int) then ⟨m.cells.set a.toNat v, ⟨k, a, afD m.cells a, v⟩, wi (m.count + 1)⟩ else m
def MemV.hit (m : MemV) (a o : Int) : Bool := decide ((0 ≤ a ∧ a < (m.cells.length : Int)) ∧ afD m.cells a = o)
def MemV.cas (m : MemV) (a o v : Int) : MemV := m.pt 3 a (if m.gt a = o then v else m.gt a)
abbrev EnvP.gt (e : EnvP) (a : Int) : Int := e.m.gt a
def EnvP.pt (e : EnvP) (k a v : Int) : EnvP := { e with m := e.m.pt k a v }
def EnvP.lk (e : EnvP) (a : Int) : EnvP := { e with m := e.m.pt 1 a (e.m.gt a) }
abbrev EnvP.hit (e : EnvP) (a o : Int) : Bool := e.m.hit a o
def EnvP.cas (e : EnvP) (a o v : Int) : EnvP := { e with m := e.m.cas a o v }
def EnvP.em (e : EnvP) (k w t o l : Int) : EnvP := { e with evs := e.evs ++ [⟨k, w, t, o, l⟩] }
def EnvP.rc (e : EnvP) (t : Int) : RecP := aad e.recs t
def EnvP.pr (e : EnvP) (t : Int) (r : RecP) : EnvP := { e with recs := e.recs.set t.toNat r }
def IsT (e : EnvP) (t : Int) : Prop := 0 ≤ t ∧ t < e.c.tasks
instance (e : EnvP) (t : Int) : Decidable (IsT e t) := inferInstanceAs (Decidable (_ ∧ _))
def avw (e : EnvP) (t v : Int) : Prop := (0 ≤ t ∧ t < e.c.tasks) ∧ 0 ≤ v ∧ v < e.c.levels
instance (e : EnvP) (t v : Int) : Decidable (avw e t v) := inferInstanceAs (Decidable (_ ∧ _))
def szP (b t : Int) : Int := wi (wu (b - t))
def aqk (q : QV) (i : Int) : Int := if q.cap < 1 then -1 else wi (q.ring + wi (Int.tmod i (wu q.cap)))
def ax4 (n : Int) : Int := if n < 0 then 0 else if 63 < n then 0 else wu (1 * 2 ^ min (wu n).toNat IntKind.u64.bits)
def azy (a n : Int) : Int := if n < 1 then 0 else if Int.tmod a n < 0 then wi (Int.tmod a n + n) else Int.tmod a n
def atP (i n a w : Int) : Int := if i < 0 then -1 else if n ≤ i then -1 else wi (a + wi (i * w))
def apv (l : LayV) (t f : Int) : Int := atP t l.tasks (wi (l.table + f)) 5
def adn (l : LayV) (t : Int) : Int := apv l t 0
def afW (l : LayV) (t : Int) : Int := apv l t 1
def af7 (l : LayV) (t : Int) : Int := apv l t 2
def agi (l : LayV) (t : Int) : Int := apv l t 3
def aqD (l : LayV) (t : Int) : Int := apv l t 4
def ato (l : LayV) (w : Int) : Int := atP w l.workers l.epochs 1
def alw (l : LayV) (k : Int) : Int := atP k l.classes l.sleepers 1
def aiX (l : LayV) (w : Int) : Int := atP w l.workers l.bitmaps 1
def adT (l : LayV) (w v : Int) : QV :=
  if atP w l.workers l.queues (wi (l.levels * wi (2 + l.deque))) < 0 then ⟨-1, -1, -1, 0⟩
  else if atP v l.levels (atP w l.workers l.queues (wi (l.levels * wi (2 + l.deque)))) (wi (2 + l.deque)) < 0 then ⟨-1, -1, -1, 0⟩
  else ⟨atP v l.levels (atP w l.workers l.queues (wi (l.levels * wi (2 + l.deque)))) (wi (2 + l.deque)), wi (atP v l.levels (atP w l.workers l.queues (wi (l.levels * wi (2 + l.deque)))) (wi (2 + l.deque)) + 1), wi (atP v l.levels (atP w l.workers l.queues (wi (l.levels * wi (2 + l.deque)))) (wi (2 + l.deque)) + 2), l.deque⟩
def arm (l n c : Int) : Int := if n < 1 then 0 else if 64 < n then 0 else if c < 1 then 0 else if 8 < c then 0 else if l < 0 then 0 else if n ≤ l then 0 else wi (Int.tdiv (wi (l * c)) n)
def afx (q : QV) (v : Int) (e : EnvP) : OPushS → Rs OPushS × EnvP
  | .l1 => (.go (.l2 (e.gt q.bottom)), e.lk q.bottom)
  | .l2 b => (if q.cap ≤ szP b (e.gt q.top) then .fin 3 0 else .go (.l3 b), e.lk q.top)
  | .l3 b => (.go (.l4 b), e.pt 2 (aqk q b) (wu v))
  | .l4 b => (.fin 0 0, e.pt 2 q.bottom (wu (b + 1)))
def azu (a b : Int) (e : EnvP) : EnvP := e.pt 4 a (orU (e.gt a) (ax4 b))
def aiI (e : EnvP) : EnvP := e.pt 6 0 (wu (e.gt 0 + 1))
def aci (t v : Int) (e : EnvP) (s : PublishS) : Rs PublishS × EnvP :=
  if ¬ IsT e t then (.fin 4 0, e)
  else match s with
    | .l1 => (.go .l2, e.pt 2 (afW e.l t) (wu v))
    | .l2 => (.go .l3, e.pt 2 (aqD e.l t) (wu e.k.now))
    | .l3 => (.fin 0 0, e.pt 2 (adn e.l t) 1)
def aiH (t : Int) (e : EnvP) : Bool := e.hit (adn e.l t) 1
def akK (w t : Int) (e : EnvP) : EnvP :=
  if aiH t e = true then
    if (e.rc t).started = true then (e.cas (adn e.l t) 1 2).em 9 w t 0 0 else ((e.cas (adn e.l t) 1 2).pr t { e.rc t with started := true }).em 5 w t 0 0
  else (e.cas (adn e.l t) 1 2).em 15 w t 0 0
def amC (v j : Int) (e : EnvP) : Int := if e.c.classes < 1 then -1 else alw e.l (azy (wi (arm v e.c.levels e.c.classes + j)) e.c.classes)
noncomputable def az5 [Tb] (x : Int) : Int := if x = 0 then -1 else tzV x
noncomputable def ai4 [Tb] (w v : Int) (e : EnvP) : WakeS → Rs WakeS × EnvP
  | .l1 j => (if e.gt (amC v j e) ≠ 0 then .go (.l2 j (az5 (e.gt (amC v j e)))) else if e.c.classes ≤ wi (j + 1) then .fin 2 0 else .go (.l1 (wi (j + 1))), e.lk (amC v j e))
  | .l2 j x => (if aue (e.gt (amC v j e)) (ax4 x) = 0 then .fin 4 0 else .go (.l3 j x), e.pt 5 (amC v j e) (aue (e.gt (amC v j e)) (ax3 (ax4 x))))
  | .l3 _ x => (.fin 1 x, (e.pt 6 (ato e.l x) (wu (e.gt (ato e.l x) + 1))).em 18 w 0 x 0)
def ahk (w t v : Int) (e : EnvP) (s : RaiseS) : Rs RaiseS × EnvP :=
  if ¬ avw e t v then (.fin 4 0, e)
  else match s with
    | .l1 _ => (if v ≤ wi (e.gt (afW e.l t)) then .fin 0 0 else .go (.l2 (e.gt (afW e.l t))), e.lk (afW e.l t))
    | .l2 q => if e.hit (afW e.l t) q = true then (.fin 1 0, (e.cas (afW e.l t) q (wu v)).em 11 w t 0 v) else (.go (.l1 q), e.cas (afW e.l t) q (wu v))
def B16.at (b : B16) (i : Int) : Int :=
  if i = 15 then b.b15 else if i = 14 then b.b14 else if i = 13 then b.b13 else if i = 12 then b.b12 else if i = 11 then b.b11 else if i = 10 then b.b10 else if i = 9 then b.b9 else if i = 8 then b.b8
  else if i = 7 then b.b7 else if i = 6 then b.b6 else if i = 5 then b.b5 else if i = 4 then b.b4 else if i = 3 then b.b3 else if i = 2 then b.b2 else if i = 1 then b.b1 else b.b0
def B16.put (b : B16) (i v : Int) : B16 :=
  if i = 15 then { b with b15 := v } else if i = 14 then { b with b14 := v } else if i = 13 then { b with b13 := v } else if i = 12 then { b with b12 := v } else if i = 11 then { b with b11 := v } else if i = 10 then { b with b10 := v }
  else if i = 9 then { b with b9 := v } else if i = 8 then { b with b8 := v } else if i = 7 then { b with b7 := v } else if i = 6 then { b with b6 := v } else if i = 5 then { b with b5 := v } else if i = 4 then { b with b4 := v }
  else if i = 3 then { b with b3 := v } else if i = 2 then { b with b2 := v } else if i = 1 then { b with b1 := v } else { b with b0 := v }
def aA3 : B16 := ⟨0, 0, 0, 0, 0, 0, 0, 0, 0, 0, 0, 0, 0, 0, 0, 0⟩
def acj (w v x : Int) (e : EnvP) : LPushS → Rs LPushS × EnvP
  | .new => match afx (adT e.l w v) x e .l1 with
    | (.go s, e') => (.go (.push s), e')
    | (.fin c _, e') => (if c = 3 then .fin 3 0 else .go .set, e')
  | .push s => match afx (adT e.l w v) x e s with
    | (.go s, e') => (.go (.push s), e')
    | (.fin c _, e') => (if c = 3 then .fin 3 0 else .go .set, e')
  | .set => (.fin 0 0, azu (aiX e.l w) v e)
def af0 (w v : Int) (e : EnvP) : WalkS → Rs WalkS × EnvP
  | .l1 t => if ¬ avw e t v then (.fin 4 0, e) else match ahk w t v e (.l1 0) with
    | (.go s, e') => (.go (.raise t s), e')
    | (.fin c _, e') => (.go (if c = 1 then .l2 t else .l4 t), e')
  | .raise t s => match ahk w t v e s with
    | (.go s, e') => (.go (.raise t s), e')
    | (.fin c _, e') => (.go (if c = 1 then .l2 t else .l4 t), e')
  | .l2 t => (.go (if e.gt (adn e.l t) = 1 then .push t .new else .l4 t), e.lk (adn e.l t))
  | .push t s => match acj w v t e s with
    | (.go s, e') => (.go (.push t s), e')
    | (.fin c _, e') => (.go (.l4 t), if c = 3 then e'.em 19 w t 0 v else e')
  | .l4 t => (if e.gt (agi e.l t) = 0 then .fin 0 0 else .go (.l1 (wi (wu (e.gt (agi e.l t) - 1)))), e.lk (agi e.l t))
def agG (w t : Int) (e : EnvP) : EnterS → Rs EnterS × EnvP
  | .l1 => if ¬ IsT e t then (.fin 4 0, e) else (.go .l2, e.pt 2 (aqD e.l t) (wu e.k.now))
  | .l2 => (.go .l3, e.pt 2 (adn e.l t) 1)
  | .l3 => (.go (.l4 (wi (e.gt (afW e.l t))) .new), e.lk (afW e.l t))
  | .l4 v s => match acj w v t e s with
    | (.go s, e') => (.go (.l4 v s), e')
    | (.fin c _, e') => (.fin c v, e')
def aaJ (l : List Int) : Int := l.getLast?.getD 0
def ahX (r : RunS) (e : EnvP) : Rs RunS × EnvP := (if r.stack.length = 1 then .fin 0 0 else .go { r with stack := r.stack.dropLast, c := .next }, e)
def an0 (x : RecP) (i : Ins) : RecP :=
  if wi ((if x.left = 0 then i.a else x.left) - 1) = 0 then { x with left := wi ((if x.left = 0 then i.a else x.left) - 1), pc := wi (x.pc + 1) } else { x with left := wi ((if x.left = 0 then i.a else x.left) - 1) }
def EnvP.prog (e : EnvP) (x : RecP) : List Ins := if x.prog < 0 ∨ (e.c.progs.length : Int) ≤ x.prog then [] else atL [] e.c.progs x.prog
def asX (p t : Int) : RecP := ⟨p, t, 0, 0, -1, [], false⟩
def aiR (w : Int) (e : EnvP) (r : RunS) (t : Int) (x : RecP) (p : List Ins) : Rs RunS × EnvP :=
  if x.waiting ≠ -1 then (.go r, (e.pt 2 (agi e.l t) 0).pr t { x with waiting := -1 })
  else if x.pc < 0 ∨ (p.length : Int) ≤ x.pc then (.go { r with c := .f2 }, e.pt 2 (adn e.l t) 4)
  else if (abb p x.pc).op = 0 then (.go r, e.pr t (an0 x (abb p x.pc)))
  else if (abb p x.pc).op = 1 then
    if IsT e (wi (e.gt 0)) then (.go { r with id := wi (e.gt 0), level := (abb p x.pc).b, c := .s2 .l1 }, ((aiI e).pr t { x with pc := wi (x.pc + 1), kids := x.kids ++ [wi (e.gt 0)] }).pr (wi (e.gt 0)) (asX (abb p x.pc).a t))
    else (.go r, ((aiI e).pr t { x with pc := wi (x.pc + 1), kids := x.kids ++ [-1] }).em 4 w t 0 0)
  else if (abb p x.pc).a < 0 ∨ (x.kids.length : Int) ≤ (abb p x.pc).a ∨ aaf x.kids (abb p x.pc).a = -1 then (.go r, e.pr t { x with pc := wi (x.pc + 1) })
  else (.go { r with child := aaf x.kids (abb p x.pc).a, c := .j2 }, (e.pt 2 (agi e.l t) (wu (wi (aaf x.kids (abb p x.pc).a + 1)))).pr t { x with pc := wi (x.pc + 1), waiting := aaf x.kids (abb p x.pc).a })
noncomputable def afq [Tb] (w : Int) (e : EnvP) (r : RunS) (t : Int) : Rs RunS × EnvP :=
  match r.c with
  | .next => aiR w e r t (e.rc t) (e.prog (e.rc t))
  | .s2 s => match aci r.id r.level e s with
    | (.go s, e') => (.go { r with c := .s2 s }, e')
    | (.fin _ _, e') => (.go { r with c := .s3 .new }, e'.em 3 w r.id t r.level)
  | .s3 s => match acj w r.level r.id e s with
    | (.go s, e') => (.go { r with c := .s3 s }, e')
    | (.fin c _, e') => (.go { r with c := if c = 3 then .s5 else .s4 (.l1 0) }, e')
  | .s4 s => match ai4 w r.level e s with
    | (.go s, e') => (.go { r with c := .s4 s }, e')
    | (.fin _ _, e') => (.go { r with c := .next }, e')
  | .s5 => (.go (if aiH r.id e = true then { r with stack := r.stack ++ [r.id], c := .next } else { r with c := .next }), akK w r.id e)
  | .j2 => (.go { r with c := .j3 }, e.pt 2 (adn e.l t) 3)
  | .j3 => if e.hit (af7 e.l r.child) 0 = true then (.go { r with c := .j4 }, (e.cas (af7 e.l r.child) 0 (wu (wi (t + 1)))).em 6 w t r.child 0) else (.go { r with c := .j6 }, e.cas (af7 e.l r.child) 0 (wu (wi (t + 1))))
  | .j4 => (.go { r with level := wi (e.gt (afW e.l t)), c := .j5 (.l1 r.child) }, e.lk (afW e.l t))
  | .j5 s => match af0 w r.level e s with
    | (.go s, e') => (.go { r with c := .j5 s }, e')
    | (.fin _ _, e') => ahX r (e'.em 7 w t 0 r.level)
  | .j6 => (.go { r with c := .j7 }, e.pt 2 (adn e.l t) 2)
  | .j7 => (.go { r with c := .next }, ((e.pt 2 (agi e.l t) 0).pr t { e.rc t with waiting := -1 }).em 8 w t r.child 0)
  | .f2 => if e.hit (af7 e.l t) 0 = true then ahX r ((e.cas (af7 e.l t) 0 4294967296).em 10 w t 0 0) else (.go { r with c := .f3 }, (e.cas (af7 e.l t) 0 4294967296).em 10 w t 0 0)
  | .f3 => if IsT e (wi (wi (e.gt (af7 e.l t)) - 1)) then (.go { r with waiter := wi (wi (e.gt (af7 e.l t)) - 1), c := .f4 .l1 }, e.lk (af7 e.l t)) else ahX { r with waiter := wi (wi (e.gt (af7 e.l t)) - 1) } (e.lk (af7 e.l t))
  | .f4 s => match agG w r.waiter e s with
    | (.go s, e') => (.go { r with c := .f4 s }, e')
    | (.fin c v, e') => (.go { r with c := if c = 3 then .f6 else .f5 v (.l1 0) }, e')
  | .f5 v s => match ai4 w v e s with
    | (.go s, e') => (.go { r with c := .f5 v s }, e')
    | (.fin _ _, e') => ahX r e'
  | .f6 => if aiH r.waiter e = true then (.go { r with stack := r.stack.dropLast ++ [r.waiter], c := .next }, akK w r.waiter e) else ahX r (akK w r.waiter e)
noncomputable def amA [Tb] (w : Int) (e : EnvP) (r : RunS) : Rs RunS × EnvP := if ¬ IsT e (aaJ r.stack) then (.fin 4 0, e) else afq w e r (aaJ r.stack)
def azv (t : Int) : RunS := ⟨[t], 0, 0, 0, 0, .next⟩
end
section
open Go Go.RowKit
set_option maxRecDepth 100000
theorem atQ {α : Type} {d : α} {xs : List α} {a : Int} {x : α} (h : 0 ≤ a ∧ a < (xs.length : Int)) : atL d (xs.set a.toNat x) a = x := by
  have : a.toNat < xs.length := by omega
  simp [atL, this]
theorem aiY {cs : List Int} {a x : Int} (h : 0 ≤ a ∧ a < (cs.length : Int)) : afD (cs.set a.toNat x) a = x := atQ h
theorem aya {x : Int} (h : ¬ x < 1) (h2 : x ≤ 9223372036854775807) : wu x ≠ 0 := by
  simp only [wu, IntKind.wrap, IntKind.bits, IntKind.signed]
  simp
  omega
theorem azO (a : Int) : 0 ≤ wu a ∧ wu a ≤ 18446744073709551615 := by
  simp only [wu, IntKind.wrap, IntKind.bits, IntKind.signed]
  simp
  omega
section
variable {m : MemV} {a o v : Int}
theorem aeZ : acb m a = some ((m.gt a, ()), (m.pt 1 a (m.gt a), ())) := by
  unfold acb MemV.gt MemV.pt
  by_cases h : 0 ≤ a ∧ a < (m.cells.length : Int)
  · have h1 : ¬ a < 0 := by omega
    have h2 : ¬ ((m.cells.length : Nat) : Int) ≤ a := by omega
    simp only [h1, h2, h, and_self, if_true, if_false, List.length_set, aiY h]
  · by_cases h1 : a < 0
    · simp only [h1, h, if_true, if_false]
    · have h2 : ((m.cells.length : Nat) : Int) ≤ a := by omega
      simp only [h1, h2, h, if_true, if_false]
theorem adw : abf m a v = some ((), (m.pt 2 a v, ())) := by
  unfold abf MemV.pt
  by_cases h : 0 ≤ a ∧ a < (m.cells.length : Int)
  · have h1 : ¬ a < 0 := by omega
    have h2 : ¬ ((m.cells.length : Nat) : Int) ≤ a := by omega
    simp only [h1, h2, h, and_self, if_true, if_false, List.length_set, aiY h]
  · by_cases h1 : a < 0
    · simp only [h1, h, if_true, if_false]
    · have h2 : ((m.cells.length : Nat) : Int) ≤ a := by omega
      simp only [h1, h2, h, if_true, if_false]
theorem anK : aog m a o v = some ((m.hit a o, ()), (m.cas a o v, ())) := by
  unfold aog MemV.hit MemV.cas MemV.pt MemV.gt
  by_cases h : 0 ≤ a ∧ a < (m.cells.length : Int)
  · have h1 : ¬ a < 0 := by omega
    have h2 : ¬ ((m.cells.length : Nat) : Int) ≤ a := by omega
    by_cases hc : afD m.cells a = o
    · simp only [h1, h2, h, hc, and_self, if_true, if_false, List.length_set, aiY h]
    · simp only [h1, h2, h, hc, and_self, if_true, if_false, List.length_set, aiY h, and_false]
  · by_cases h1 : a < 0
    · simp only [h1, h, if_true, if_false, false_and, decide_false]
    · have h2 : ((m.cells.length : Nat) : Int) ≤ a := by omega
      simp only [h1, h2, h, if_true, if_false, false_and, decide_false]
theorem ayA : pOr m a v = some ((m.gt a, ()), (m.pt 4 a (orU (m.gt a) v), ())) := by
  unfold pOr MemV.gt MemV.pt
  by_cases h : 0 ≤ a ∧ a < (m.cells.length : Int)
  · have h1 : ¬ a < 0 := by omega
    have h2 : ¬ ((m.cells.length : Nat) : Int) ≤ a := by omega
    simp only [h1, h2, h, and_self, if_true, if_false, List.length_set, aiY h]
  · by_cases h1 : a < 0
    · simp only [h1, h, if_true, if_false]
    · have h2 : ((m.cells.length : Nat) : Int) ≤ a := by omega
      simp only [h1, h2, h, if_true, if_false]
theorem asJ : avJ m a v = some ((m.gt a, ()), (m.pt 5 a (aue (m.gt a) v), ())) := by
  unfold avJ MemV.gt MemV.pt
  by_cases h : 0 ≤ a ∧ a < (m.cells.length : Int)
  · have h1 : ¬ a < 0 := by omega
    have h2 : ¬ ((m.cells.length : Nat) : Int) ≤ a := by omega
    simp only [h1, h2, h, and_self, if_true, if_false, List.length_set, aiY h]
  · by_cases h1 : a < 0
    · simp only [h1, h, if_true, if_false]
    · have h2 : ((m.cells.length : Nat) : Int) ≤ a := by omega
      simp only [h1, h2, h, if_true, if_false]
theorem apV : ayC m a v = some ((m.gt a, ()), (m.pt 6 a (wu (m.gt a + v)), ())) := by
  unfold ayC MemV.gt MemV.pt
  by_cases h : 0 ≤ a ∧ a < (m.cells.length : Int)
  · have h1 : ¬ a < 0 := by omega
    have h2 : ¬ ((m.cells.length : Nat) : Int) ≤ a := by omega
    simp only [h1, h2, h, and_self, if_true, if_false, List.length_set, aiY h]
  · by_cases h1 : a < 0
    · simp only [h1, h, if_true, if_false]
    · have h2 : ((m.cells.length : Nat) : Int) ≤ a := by omega
      simp only [h1, h2, h, if_true, if_false]
end
theorem asE {a n : Int} : avH a n = some ((azy a n, ()), ()) := by
  unfold avH azy
  by_cases h : n < 1
  · rw [if_pos h, if_pos h]
  · rw [if_neg h, if_neg h, if_pos (show n ≠ 0 by omega)]
    split <;> rfl
theorem apS {n : Int} : at9 n = some ((ax4 n, ()), ()) := by
  unfold at9 ax4
  rw [if_pos (azO n).1]
  split
  · rfl
  · split <;> rfl
theorem auI {q : QV} {i : Int} (h : q.cap ≤ 9223372036854775807) : apR q i = some ((aqk q i, ()), ()) := by
  unfold apR aqk
  by_cases h1 : q.cap < 1
  · rw [if_pos h1, if_pos h1]
  · rw [if_neg h1, if_neg h1, if_pos (aya h1 h)]
theorem auC {b t : Int} : apM b t = some ((szP b t, ()), ()) := rfl
theorem aoO {i n a w : Int} : pAt i n a w = some ((atP i n a w, ()), ()) := by
  unfold pAt atP
  split
  · rfl
  · split <;> rfl
theorem aju {l : LayV} {t f : Int} : aoH l t f = some ((apv l t f, ()), ()) := by unfold aoH; rw [aoO]; rfl
theorem aft {l : LayV} {t : Int} : aex l t = some ((adn l t, ()), ()) := by unfold aex; rw [aju]; rfl
theorem ajz {l : LayV} {t : Int} : afw l t = some ((afW l t, ()), ()) := by unfold afw; rw [aju]; rfl
theorem aoI {l : LayV} {t : Int} : ajy l t = some ((aqD l t, ()), ()) := by unfold ajy; rw [aju]; rfl
theorem ajs {l : LayV} {t : Int} : ahT l t = some ((agi l t, ()), ()) := by unfold ahT; rw [aju]; rfl
theorem anH {l : LayV} {t : Int} : ak1 l t = some ((af7 l t, ()), ()) := by unfold ak1; rw [aju]; rfl
theorem aoK {l : LayV} {t : Int} : am0 l t = some ((ato l t, ()), ()) := by unfold am0; rw [aoO]; rfl
theorem akH {l : LayV} {t : Int} : afu l t = some ((alw l t, ()), ()) := by unfold afu; rw [aoO]; rfl
theorem am1 {l : LayV} {t : Int} : agY l t = some ((aiX l t, ()), ()) := by unfold agY; rw [aoO]; rfl
theorem asz {l : LayV} {w v : Int} : amZ l w v = some ((adT l w v, ()), ()) := by
  unfold amZ adT
  simp only [aoO, Option.bind_some]
  split
  · rfl
  · split <;> rfl
theorem aoL {l n c : Int} : aoM l n c = some ((arm l n c, ()), ()) := by
  unfold aoM arm
  by_cases h : n < 1
  · rw [if_pos h, if_pos h]
  · rw [if_neg h, if_neg h, if_pos (show n ≠ 0 by omega)]
    repeat' split
    all_goals rfl
theorem asF [Tb] {x : Int} : azx x = some ((az5 x, ()), ()) := by
  unfold azx az5
  split <;> rfl
theorem agX {e : EnvP} {v : Ev} (h : e.evs.length ≤ 999999999) : afL e v = some ((), ({ e with evs := e.evs ++ [v] }, ())) := by
  unfold afL
  rw [if_pos (by rw [List.length_singleton]; omega)]
@[reducible] def o0 : OutV := ⟨false, 0, 0⟩
@[reducible] def aq6 (q : QV) (v : Int) : OPushS → OPushV
  | .l1 => ⟨o0, q, v, 1, 0⟩
  | .l2 b => ⟨o0, q, v, 2, b⟩
  | .l3 b => ⟨o0, q, v, 3, b⟩
  | .l4 b => ⟨o0, q, v, 4, b⟩
@[reducible] def azY (q : QV) : OPopS → OPopV
  | .l1 => ⟨o0, q, 1, 0, 0⟩
  | .l2 b => ⟨o0, q, 2, b, 0⟩
  | .l3 b t => ⟨o0, q, 3, b, t⟩
  | .l4 b t => ⟨o0, q, 4, b, t⟩
  | .l5 b t => ⟨o0, q, 5, b, t⟩
  | .l6 b t => ⟨o0, q, 6, b, t⟩
  | .l7 b t => ⟨o0, q, 7, b, t⟩
  | .l8 b t => ⟨o0, q, 8, b, t⟩
  | .l9 b t => ⟨o0, q, 9, b, t⟩
@[reducible] def aAE (q : QV) : StealS → StealV
  | .l1 => ⟨o0, q, 1, 0, 0⟩
  | .l2 t => ⟨o0, q, 2, t, 0⟩
  | .l3 t => ⟨o0, q, 3, t, 0⟩
  | .l4 t v => ⟨o0, q, 4, t, v⟩
@[reducible] def ayr (a b : Int) (q : QV) : ResetS → ResetV
  | .l1 => ⟨o0, a, b, q, 1, 0⟩
  | .l2 => ⟨o0, a, b, q, 2, 0⟩
  | .l3 x => ⟨o0, a, b, q, 3, x⟩
  | .l4 x => ⟨o0, a, b, q, 4, x⟩
@[reducible] def ajo (t v : Int) : PublishS → PublishV
  | .l1 => ⟨o0, t, v, 1⟩
  | .l2 => ⟨o0, t, v, 2⟩
  | .l3 => ⟨o0, t, v, 3⟩
@[reducible] def awS (w : Int) : RemoveS → RemoveV
  | .l1 => ⟨o0, w, 1, 0, 0, 0, 0, 0, 0⟩
  | .l2 n => ⟨o0, w, 2, n, 0, 0, 0, 0, 0⟩
  | .l3 n x => ⟨o0, w, 3, n, 0, 0, x, 0, 0⟩
  | .l4 n x y => ⟨o0, w, 4, n, 0, 0, x, y, 0⟩
  | .l5 n i c x y z => ⟨o0, w, 5, n, i, c, x, y, z⟩
  | .l6 n i c x y z => ⟨o0, w, 6, n, i, c, x, y, z⟩
  | .l7 n i c x y z => ⟨o0, w, 7, n, i, c, x, y, z⟩
  | .l8 n i c x y z => ⟨o0, w, 8, n, i, c, x, y, z⟩
@[reducible] def apu (w v : Int) : WakeS → WakeV
  | .l1 j => ⟨o0, w, v, 1, j, 0⟩
  | .l2 j x => ⟨o0, w, v, 2, j, x⟩
  | .l3 j x => ⟨o0, w, v, 3, j, x⟩
@[reducible] def aAG (w : Int) : SleepS → SleepV
  | .l1 => ⟨o0, w, 1, 0, 0, 0⟩
  | .l2 ep => ⟨o0, w, 2, ep, 0, 0⟩
  | .l3 ep => ⟨o0, w, 3, ep, 0, 0⟩
  | .l4 ep v => ⟨o0, w, 4, ep, v, 0⟩
  | .l5 ep v s => ⟨o0, w, 5, ep, v, s⟩
  | .l6 ep v s => ⟨o0, w, 6, ep, v, s⟩
  | .l7 ep v s => ⟨o0, w, 7, ep, v, s⟩
@[reducible] def aAJ (w : Int) : ProbeS → ProbeV
  | .new => ⟨o0, w, false, 0, 0, aA3⟩
  | .run s i bm => ⟨o0, w, true, s, i, bm⟩
@[reducible] def aoD (w t v : Int) : RaiseS → RaiseV
  | .l1 q => ⟨o0, w, t, v, 1, q⟩
  | .l2 q => ⟨o0, w, t, v, 2, q⟩
def adP {σ X : Type} (og : X → OutV) (mk : σ → X) (res : Option ((Bool × Unit) × (X × EnvP × Unit))) (r : Rs σ × EnvP) : Prop :=
  match r with
  | (.go s, e) => res = some ((false, ()), (mk s, e, ()))
  | (.fin c v, e) => ∃ x, res = some ((true, ()), (x, e, ())) ∧ og x = ⟨true, c, v⟩
section
variable {σ X : Type} {og : X → OutV} {mk : σ → X} {a b : Option ((Bool × Unit) × (X × EnvP × Unit))} {r s : Rs σ × EnvP}
theorem adP.ite {c : Prop} [Decidable c] (h1 : c → adP og mk a r) (h2 : ¬ c → adP og mk b s) : adP og mk (if c then a else b) (if c then r else s) := by
  by_cases h : c
  · rw [if_pos h, if_pos h]; exact h1 h
  · rw [if_neg h, if_neg h]; exact h2 h
theorem adP.iteN {c : Bool} (h1 : c = true → adP og mk b r) (h2 : c = false → adP og mk a s) : adP og mk (if (!c) = true then a else b) (if c = true then r else s) := by
  cases c
  · exact h2 rfl
  · exact h1 rfl
theorem adW {c : Prop} [Decidable c] {x y : Rs σ} {e : EnvP} : ((if c then x else y), e) = if c then (x, e) else (y, e) := by split <;> rfl
theorem as9 {c : Prop} [Decidable c] {x y : σ} : Rs.go (if c then x else y) = if c then Rs.go x else Rs.go y := by split <;> rfl
end
theorem ajX {α β : Type} {c : Prop} [Decidable c] {x y : Option α} {f : α → Option β} : (if c then x else y).bind f = if c then x.bind f else y.bind f := by split <;> rfl
section
variable {e : EnvP}
theorem aoQ {q : QV} {v : Int} (hq : q.cap ≤ 9223372036854775807) (s : OPushS) : adP OPushV.o (aq6 q v) (acx (aq6 q v s) e) (afx q v e s) := by
  cases s <;> simp only [acx, aq6, afx, aaS, abH, o0, aeZ, adw, auC, auI hq, Option.bind_some, Bool.false_eq_true, if_true, if_false, reduceIte, Int.reduceEq, adW]
  all_goals repeat' first | with_reducible refine adP.ite (fun _ => ?_) fun _ => ?_ | with_reducible refine adP.iteN (fun _ => ?_) fun _ => ?_
  all_goals first | rfl | exact ⟨_, rfl, rfl⟩
theorem awD {a b : Int} : ∃ x, acz ⟨o0, a, b⟩ e = some ((true, ()), (x, azu a b e, ())) ∧ x.o = ⟨true, 0, 0⟩ := by
  simp only [acz, aaS, abH, o0, ayA, apS, Option.bind_some, Bool.false_eq_true, if_true, if_false]
  exact ⟨_, rfl, rfl⟩
theorem ahY {t : Int} : aec e t = some ((decide (IsT e t), ()), (e, ())) := by
  unfold aec IsT
  by_cases h : 0 ≤ t
  · simp only [h, if_true, true_and]
  · simp only [h, if_false, false_and, decide_false]
theorem anT {t v : Int} : ah7 e t v = some ((decide (avw e t v), ()), (e, ())) := by
  unfold ah7 avw
  by_cases h : 0 ≤ t
  · by_cases h2 : t < e.c.tasks
    · by_cases h3 : 0 ≤ v
      · simp only [h, h2, h3, if_true, true_and]
      · simp only [h, h2, h3, if_true, if_false, false_and, and_false, decide_false]
    · simp only [h, h2, if_true, if_false, false_and, and_false, decide_false]
  · simp only [h, if_false, false_and, decide_false]
theorem at0 : ∃ x, abm ⟨o0⟩ e = some ((true, ()), (x, aiI e, ())) ∧ x.o = if IsT e (wi (e.gt 0)) then ⟨true, 1, wi (e.gt 0)⟩ else ⟨true, 3, 0⟩ := by
  simp only [abm, aaS, abH, aw1, o0, apV, ahY, Option.bind_some, Bool.false_eq_true, if_true, if_false]
  by_cases h : IsT e (wi (e.gt 0))
  · have h' : IsT { e with m := e.m.pt 6 0 (wu (e.m.gt 0 + 1)) } (wi (e.m.gt 0)) := h
    simp only [h, h', decide_true, Bool.not_true, Bool.false_eq_true, if_true, if_false]
    exact ⟨_, rfl, rfl⟩
  · have h' : ¬ IsT { e with m := e.m.pt 6 0 (wu (e.m.gt 0 + 1)) } (wi (e.m.gt 0)) := h
    simp only [h, h', decide_false, Bool.not_false, if_true, if_false]
    exact ⟨_, rfl, rfl⟩
theorem apH {t v : Int} (s : PublishS) : adP PublishV.o (ajo t v) (abe (ajo t v s) e) (aci t v e s) := by
  by_cases h : IsT e t
  · cases s <;> simp only [abe, ajo, aci, ahY, h, not_true, decide_true, Bool.not_true, aaS, abH, asB, o0, adw, ajz, aoI, aft, Option.bind_some, Bool.false_eq_true, if_true, if_false, reduceIte, Int.reduceEq]
    all_goals first | rfl | exact ⟨_, rfl, rfl⟩
  · cases s <;> simp only [abe, ajo, aci, ahY, h, not_false_eq_true, decide_false, Bool.not_false, aaS, abH, o0, Option.bind_some, Bool.false_eq_true, if_true, if_false]
    all_goals exact ⟨_, rfl, rfl⟩
theorem apf {w t : Int} (hl : e.evs.length ≤ 999999999) (hr : e.hit (adn e.l t) 1 = true → 0 ≤ t ∧ t < (e.recs.length : Int)) : ∃ x, ab8 ⟨o0, w, t⟩ e = some ((true, ()), (x, akK w t e, ())) ∧ x.o = if aiH t e = true then ⟨true, 1, t⟩ else ⟨true, 4, 0⟩ := by
  simp only [ab8, aaS, abH, o0, anK, aft, Option.bind_some, Bool.false_eq_true, if_true, if_false]
  unfold akK aiH
  simp only [EnvP.hit] at hr ⊢
  rcases Bool.eq_false_or_eq_true (e.m.hit (adn e.l t) 1) with h | h
  · simp only [h, Bool.not_true, Bool.false_eq_true, if_true, if_false, hr h, and_self]
    by_cases hs : (aad e.recs t).started = true
    · have hs' : (e.rc t).started = true := hs
      simp only [hs, hs', if_true, agX (e := { e with m := e.m.cas (adn e.l t) 1 2 }) hl, Option.bind_some]
      exact ⟨_, rfl, rfl⟩
    · have hs' : ¬ (e.rc t).started = true := hs
      simp only [hs, hs', if_false, agX (e := { e with m := e.m.cas (adn e.l t) 1 2, recs := e.recs.set t.toNat { aad e.recs t with started := true } }) hl, Option.bind_some]
      exact ⟨_, rfl, rfl⟩
  · simp only [h, Bool.not_false, Bool.false_eq_true, if_true, if_false, agX (e := { e with m := e.m.cas (adn e.l t) 1 2 }) hl, Option.bind_some]
    exact ⟨_, rfl, rfl⟩
theorem aoC {w t v : Int} (hl : e.evs.length ≤ 999999999) (s : RaiseS) : adP RaiseV.o (aoD w t v) (abL (aoD w t v s) e) (ahk w t v e s) := by
  have hm : ∀ m v, afL { e with m := m } v = some ((), ({ e with m := m, evs := e.evs ++ [v] }, ())) := fun m v => agX (e := { e with m := m }) hl
  by_cases h : avw e t v
  · cases s <;> simp only [abL, aoD, ahk, anT, h, not_true, decide_true, Bool.not_true, aaS, abH, o0, aeZ, anK, ajz, hm, Option.bind_some, Bool.false_eq_true, if_true, if_false, reduceIte, Int.reduceEq, adW]
    all_goals repeat' first | with_reducible refine adP.ite (fun _ => ?_) fun _ => ?_ | with_reducible refine adP.iteN (fun _ => ?_) fun _ => ?_
    all_goals first | rfl | exact ⟨_, rfl, rfl⟩
  · cases s <;> simp only [abL, aoD, ahk, anT, h, not_false_eq_true, decide_false, Bool.not_false, aaS, abH, o0, Option.bind_some, Bool.false_eq_true, if_true, if_false]
    all_goals exact ⟨_, rfl, rfl⟩
theorem aqt [Tb] {w v : Int} (hl : e.evs.length ≤ 999999999) (s : WakeS) : adP WakeV.o (apu w v) (acq (apu w v s) e) (ai4 w v e s) := by
  have hm : ∀ m v, afL { e with m := m } v = some ((), ({ e with m := m, evs := e.evs ++ [v] }, ())) := fun m v => agX (e := { e with m := m }) hl
  by_cases hc : e.c.classes < 1
  · cases s <;> simp only [acq, apu, ai4, amC, hc, aaS, abH, asF, o0, aeZ, apV, asJ, apS, asE, aoL, aoK, akH, hm, Option.bind_some, Bool.false_eq_true, if_true, if_false, reduceIte, Int.reduceEq, adW, ajX, decide_eq_true_eq]
    all_goals repeat' first | with_reducible refine adP.ite (fun _ => ?_) fun _ => ?_ | with_reducible refine adP.iteN (fun _ => ?_) fun _ => ?_
    all_goals first | rfl | exact ⟨_, rfl, rfl⟩
  · cases s <;> simp only [acq, apu, ai4, amC, hc, aaS, abH, asF, o0, aeZ, apV, asJ, apS, asE, aoL, aoK, akH, hm, Option.bind_some, Bool.false_eq_true, if_true, if_false, reduceIte, Int.reduceEq, adW, ajX, decide_eq_true_eq]
    all_goals repeat' first | with_reducible refine adP.ite (fun _ => ?_) fun _ => ?_ | with_reducible refine adP.iteN (fun _ => ?_) fun _ => ?_
    all_goals first | rfl | exact ⟨_, rfl, rfl⟩
end
section
variable {e : EnvP}
theorem adP.bind {σ X α : Type} {og : X → OutV} {mk : σ → X} {r : Rs σ × EnvP} {A : Option α} {f : α → Option ((Bool × Unit) × (X × EnvP × Unit))} {z : α} (h : A = some z) (h2 : adP og mk (f z) r) : adP og mk (A.bind f) r := by rw [h]; exact h2
end
inductive One (m : MemV) : MemV → Prop where
  | no : One m m
  | yes (k a v : Int) (h : 0 ≤ a ∧ a < (m.cells.length : Int)) (hk : k < 2 → v = afD m.cells a) : One m ⟨m.cells.set a.toNat v, ⟨k, a, afD m.cells a, v⟩, wi (m.count + 1)⟩
structure Stp (j : Nat) (e e' : EnvP) : Prop where
  c : e'.c = e.c
  l : e'.l = e.l
  k : e'.k = e.k
  rl : e'.recs.length = e.recs.length
  m : One e.m e'.m
  ev : e'.evs.length ≤ e.evs.length + j
  kd : ∀ K, (∀ r ∈ e.recs, r.kids.length ≤ K) → ∀ r ∈ e'.recs, r.kids.length ≤ K + 1
section
variable {j : Nat} {e e' : EnvP}
theorem Stp.refl : Stp 0 e e := ⟨rfl, rfl, rfl, rfl, .no, Nat.le_refl _, fun K h r hr => Nat.le_succ_of_le (h r hr)⟩
theorem Stp.le {i : Nat} (h : Stp j e e') (hi : j ≤ i) : Stp i e e' := ⟨h.c, h.l, h.k, h.rl, h.m, Nat.le_trans h.ev (Nat.add_le_add_left hi _), h.kd⟩
theorem asS {m : MemV} {k a v : Int} (hk : k < 2 → 0 ≤ a → a < (m.cells.length : Int) → v = afD m.cells a) : One m (m.pt k a v) := by
  unfold MemV.pt
  by_cases h : 0 ≤ a ∧ a < (m.cells.length : Int)
  · rw [if_pos h]; exact .yes k a v h fun hk' => hk hk' h.1 h.2
  · rw [if_neg h]; exact .no
theorem Stp.pt {k a v : Int} (hk : 2 ≤ k) : Stp 0 e (e.pt k a v) := ⟨rfl, rfl, rfl, rfl, asS fun h => absurd h (by omega), Nat.le_refl _, fun K h r hr => Nat.le_succ_of_le (h r hr)⟩
theorem Stp.lk {a : Int} : Stp 0 e (e.lk a) := ⟨rfl, rfl, rfl, rfl, asS fun _ h1 h2 => by unfold MemV.gt; rw [if_pos ⟨h1, h2⟩], Nat.le_refl _, fun K h r hr => Nat.le_succ_of_le (h r hr)⟩
theorem Stp.cas {a o v : Int} : Stp 0 e (e.cas a o v) := ⟨rfl, rfl, rfl, rfl, asS fun h => absurd h (by omega), Nat.le_refl _, fun K h r hr => Nat.le_succ_of_le (h r hr)⟩
theorem Stp.em {k w t o l : Int} (h : Stp j e e') : Stp (j + 1) e (e'.em k w t o l) := ⟨h.c, h.l, h.k, h.rl, h.m, by
  show (e'.evs ++ [_]).length ≤ _
  rw [List.length_append, List.length_singleton]
  have := h.ev
  omega, h.kd⟩
theorem Stp.pr {t : Int} {r : RecP} (h : Stp j e e') (hr : ∀ K, (∀ r ∈ e.recs, r.kids.length ≤ K) → r.kids.length ≤ K + 1) : Stp j e (e'.pr t r) := ⟨h.c, h.l, h.k, (by show (e'.recs.set _ _).length = _; rw [List.length_set]; exact h.rl), h.m, h.ev, fun K hK x hx => by
  rcases List.mem_or_eq_of_mem_set hx with hx | rfl
  · exact h.kd K hK x hx
  · exact hr K hK⟩
theorem ali {q : QV} {v : Int} (s : OPushS) : Stp 0 e (afx q v e s).2 := by
  cases s <;> unfold afx <;> first | exact .lk | exact .pt (by decide)
theorem ayh {a b : Int} : Stp 0 e (azu a b e) := .pt (by decide)
theorem aru : Stp 0 e (aiI e) := .pt (by decide)
theorem amW {t v : Int} (s : PublishS) : Stp 0 e (aci t v e s).2 := by
  unfold aci
  split
  · exact .refl
  · cases s <;> exact .pt (by decide)
theorem anD {t : Int} (h : 0 ≤ t ∧ t < (e.recs.length : Int)) (K : Nat) (hK : ∀ r ∈ e.recs, r.kids.length ≤ K) : (e.rc t).kids.length ≤ K := by
  refine hK _ ?_
  have h1 := aej (d := (dfR 26 : RecP)) (xs := e.recs) h
  exact List.mem_of_getElem? h1
theorem an6 {w t : Int} (hr : aiH t e = true → 0 ≤ t ∧ t < (e.recs.length : Int)) : Stp 1 e (akK w t e) := by
  unfold akK
  split
  · rename_i h
    split
    · exact Stp.cas.em
    · refine (Stp.cas.pr fun K hK => ?_).em
      exact Nat.le_succ_of_le (anD (hr h) K hK)
  · exact Stp.cas.em
theorem arX [Tb] {w v : Int} (s : WakeS) : Stp 1 e (ai4 w v e s).2 := by
  cases s <;> unfold ai4 <;> first | exact Stp.lk.le (by decide) | exact Stp.le (.pt (by decide)) (by decide) | exact Stp.em (.pt (by decide))
theorem aqQ {w t v : Int} (s : RaiseS) : Stp 1 e (ahk w t v e s).2 := by
  unfold ahk
  split
  · exact Stp.refl.le (by decide)
  · cases s
    · exact Stp.lk.le (by decide)
    · simp only
      split
      · exact Stp.cas.em
      · exact Stp.cas.le (by decide)
theorem ajG {w v x : Int} (s : LPushS) : Stp 0 e (acj w v x e s).2 := by
  cases s with
  | new =>
    have h := ali (e := e) (q := adT e.l w v) (v := x) .l1
    revert h
    simp only [acj]
    rcases afx (adT e.l w v) x e .l1 with ⟨r | ⟨c, y⟩, e'⟩ <;> intro h <;> exact h
  | push s =>
    have h := ali (e := e) (q := adT e.l w v) (v := x) s
    revert h
    simp only [acj]
    rcases afx (adT e.l w v) x e s with ⟨r | ⟨c, y⟩, e'⟩ <;> intro h <;> exact h
  | set => exact ayh
theorem arW {w v : Int} (s : WalkS) : Stp 1 e (af0 w v e s).2 := by
  cases s with
  | l1 t =>
    by_cases hf : avw e t v
    · have h := aqQ (e := e) (w := w) (t := t) (v := v) (.l1 0)
      simp only [af0, hf, not_true, if_false]
      revert h
      rcases ahk w t v e (.l1 0) with ⟨r | ⟨c, y⟩, e'⟩ <;> intro h <;> exact h
    · simp only [af0, hf, not_false_eq_true, if_true]
      exact Stp.refl.le (by decide)
  | raise t s =>
    have h := aqQ (e := e) (w := w) (t := t) (v := v) s
    revert h
    simp only [af0]
    rcases ahk w t v e s with ⟨r | ⟨c, y⟩, e'⟩ <;> intro h <;> exact h
  | l2 t => exact Stp.lk.le (by decide)
  | push t s =>
    have h := ajG (e := e) (w := w) (v := v) (x := t) s
    revert h
    simp only [af0]
    rcases acj w v t e s with ⟨r | ⟨c, y⟩, e'⟩ <;> intro h
    · exact h.le (by decide)
    · show Stp 1 e (if c = 3 then _ else _)
      split
      · exact h.em
      · exact h.le (by decide)
  | l4 t => exact Stp.lk.le (by decide)
theorem au9 {w t : Int} (s : EnterS) : Stp 0 e (agG w t e s).2 := by
  cases s with
  | l1 =>
    by_cases hf : IsT e t
    · simp only [agG, hf, not_true, if_false]; exact .pt (by decide)
    · simp only [agG, hf, not_false_eq_true, if_true]; exact .refl
  | l2 => exact .pt (by decide)
  | l3 => exact .lk
  | l4 v s =>
    have h := ajG (e := e) (w := w) (v := v) (x := t) s
    revert h
    simp only [agG]
    rcases acj w v t e s with ⟨r | ⟨c, y⟩, e'⟩ <;> intro h <;> exact h
end
structure EOk (K : Nat) (e : EnvP) : Prop where
  dq : 0 ≤ e.l.deque ∧ e.l.deque ≤ 65535
  tk : e.l.tasks = (e.recs.length : Int)
  ct : e.c.tasks = (e.recs.length : Int)
  wk : 1 ≤ e.c.workers
  ev : e.evs.length ≤ K
  kd : ∀ r ∈ e.recs, r.kids.length ≤ K
section
variable [Tb] {K : Nat} {e : EnvP}
theorem EOk.q (h : EOk K e) (w v : Int) : (adT e.l w v).cap ≤ 9223372036854775807 := by
  have := h.dq
  unfold adT
  repeat' split
  all_goals simp only; omega
theorem EOk.st (h : EOk K e) {t o : Int} (hh : e.hit (adn e.l t) o = true) : 0 ≤ t ∧ t < (e.recs.length : Int) := by
  have h1 : 0 ≤ adn e.l t := by
    have := of_decide_eq_true hh
    exact this.1.1
  unfold adn apv atP at h1
  rw [← h.tk]
  split at h1
  · omega
  · split at h1 <;> omega
theorem EOk.step (h : EOk K e) {j : Nat} {e' : EnvP} (s : Stp j e e') : EOk (K + j + 1) e' := by
  refine ⟨?_, ?_, ?_, ?_, ?_, ?_⟩
  · rw [s.l]; exact h.dq
  · rw [s.l, s.rl]; exact h.tk
  · rw [s.c, s.rl]; exact h.ct
  · rw [s.c]; exact h.wk
  · have := s.ev; have := h.ev; omega
  · intro r hr
    have := s.kd K h.kd r hr
    omega
@[reducible] def alX (l : LayV) (w v x : Int) : LPushS → LPushV MV
  | .new => ⟨o0, w, v, x, 1, .nil⟩
  | .push s => ⟨o0, w, v, x, 1, .opush (aq6 (adT l w v) x s)⟩
  | .set => ⟨o0, w, v, x, 2, .set ⟨o0, aiX l w, v⟩⟩
@[reducible] def az4 (l : LayV) (w : Int) : LPopS → LPopV MV
  | .l1 v => ⟨o0, w, v, 1, .nil⟩
  | .l2 v s => ⟨o0, w, v, 2, .opop (azY (adT l w v) s)⟩
  | .l3 v s => ⟨o0, w, v, 3, .reset (ayr (aiX l w) v (adT l w v) s)⟩
@[reducible] def av3 (l : LayV) (w v : Int) : WalkS → WalkV MV
  | .l1 t => ⟨o0, w, t, v, 1, .nil⟩
  | .raise t s => ⟨o0, w, t, v, 1, .raise (aoD w t v s)⟩
  | .l2 t => ⟨o0, w, t, v, 2, .nil⟩
  | .push t s => ⟨o0, w, t, v, 3, .lpush (alX l w v t s)⟩
  | .l4 t => ⟨o0, w, t, v, 4, .nil⟩
@[reducible] def atq (l : LayV) (w t : Int) : EnterS → EnterV MV
  | .l1 => ⟨o0, w, t, 0, 1, .nil⟩
  | .l2 => ⟨o0, w, t, 0, 2, .nil⟩
  | .l3 => ⟨o0, w, t, 0, 3, .nil⟩
  | .l4 v s => ⟨o0, w, t, v, 4, .lpush (alX l w v t s)⟩
@[reducible] def aAD (l : LayV) (w t : Int) : SweepS → SweepV MV
  | .l1 => ⟨o0, w, t, 1, 0, .nil⟩
  | .l2 => ⟨o0, w, t, 2, 0, .nil⟩
  | .l3 => ⟨o0, w, t, 3, 0, .nil⟩
  | .l4 q => ⟨o0, w, t, 4, q, .nil⟩
  | .l5 q => ⟨o0, w, t, 5, q, .nil⟩
  | .l6 q s => ⟨o0, w, t, 6, q, .lpush (alX l w (wi (wi q + 1)) t s)⟩
@[reducible] def aAU (l : LayV) (w : Int) : TakeS → TakeV MV
  | .pop s => ⟨o0, w, false, .lpop (az4 l w s)⟩
  | .claim t => ⟨o0, w, true, .claim ⟨o0, w, t⟩⟩
@[reducible] def atr (l : LayV) (w p x last : Int) : DrainC → Int × MV
  | .l1 => (1, .nil)
  | .l2 => (2, .attempt ⟨o0, w, true⟩)
  | .l3 s => (3, .remove (awS w s))
  | .l4 => (4, .nil)
  | .l5 s => (5, .lpush (alX l w p x s))
  | .l6 => (6, .release ⟨o0⟩)
  | .l7 s => (7, .wake (apu w last s))
@[reducible] def aAO (l : LayV) (w : Int) (d : DrainS) : DrainV MV :=
  ⟨o0, w, (atr l w d.p d.x d.last d.c).1, (atr l w d.p d.x d.last d.c).2, d.x, d.direct, d.p, d.last, d.count⟩
theorem apz : (SR1.spl MV.nil).isNone = true := rfl
theorem asb (x : OPushV) : (SR1.spl (MV.opush x)).isNone = false := rfl
theorem awv (x : SetV) : (SR1.spl (MV.set x)).isNone = false := rfl
theorem asa (x : RaiseV) : (SR1.spl (MV.raise x)).isNone = false := rfl
theorem alW {w v x : Int} (hK : EOk K e) (s : LPushS) : adP LPushV.o (alX e.l w v x) (abK (alX e.l w v x s) e) (acj w v x e s) := by
  have hq := hK.q w v
  cases s with
  | new =>
    have h := aoQ (e := e) (v := x) hq .l1
    have hn := ali (e := e) (q := adT e.l w v) (v := x) .l1
    revert h hn
    simp only [acj, abK, apz, aaS, abH, o0, asz, alR, akD, Option.bind_some, if_true, Bool.false_eq_true, if_false]
    rcases afx (adT e.l w v) x e .l1 with ⟨r | ⟨c, y⟩, e'⟩ <;> intro h hn
    · simp only [adP, o0] at h
      simp only [h, Option.bind_some, Bool.not_false, if_true]
      rfl
    · simp only [adP, o0] at h
      obtain ⟨x', h, ho⟩ := h
      have hnl : e'.l = e.l := hn.l
      simp only [h, ho, afR, Option.bind_some, Bool.not_true, Bool.false_eq_true, if_false, am1, ah8, hnl, reduceIte, Int.reduceEq, adW]
      exact adP.ite (fun _ => ⟨_, rfl, rfl⟩) fun _ => rfl
  | push s =>
    have h := aoQ (e := e) (v := x) hq s
    have hn := ali (e := e) (q := adT e.l w v) (v := x) s
    revert h hn
    simp only [acj, abK, asb, aaS, abH, o0, akD, Option.bind_some, if_true, Bool.false_eq_true, if_false]
    rcases afx (adT e.l w v) x e s with ⟨r | ⟨c, y⟩, e'⟩ <;> intro h hn
    · simp only [adP] at h
      simp only [h, Option.bind_some, Bool.not_false, if_true]
      rfl
    · simp only [adP] at h
      obtain ⟨x', h, ho⟩ := h
      have hnl : e'.l = e.l := hn.l
      simp only [h, ho, afR, Option.bind_some, Bool.not_true, Bool.false_eq_true, if_false, am1, ah8, hnl, reduceIte, Int.reduceEq, adW]
      exact adP.ite (fun _ => ⟨_, rfl, rfl⟩) fun _ => rfl
  | set =>
    obtain ⟨y, h, ho⟩ := awD (e := e) (a := aiX e.l w) (b := v)
    simp only [o0] at h
    simp only [acj, abK, awv, aaS, abH, o0, akD, h, ho, afR, Option.bind_some, Bool.not_true, if_true, Bool.false_eq_true, if_false, reduceIte, Int.reduceEq]
    exact ⟨_, rfl, rfl⟩
theorem auf {w v : Int} (hK : EOk K e) (hk : K ≤ 100000000) (s : WalkS) : adP WalkV.o (av3 e.l w v) (abr (av3 e.l w v s) e) (af0 w v e s) := by
  have hl : e.evs.length ≤ 999999999 := by have := hK.ev; omega
  cases s with
  | l1 t =>
    by_cases hf : avw e t v
    · have h := aoC (e := e) (w := w) (t := t) (v := v) hl (.l1 0)
      revert h
      simp only [af0, hf, abr, adz, anT, decide_true, not_true, Bool.not_true, apz, akv, aaS, abH, o0, afm, Option.bind_some, if_true, Bool.false_eq_true, if_false, reduceIte, Int.reduceEq]
      rcases ahk w t v e (.l1 0) with ⟨r | ⟨c, y⟩, e'⟩ <;> intro h
      · simp only [adP, o0] at h
        simp only [h, Option.bind_some, Bool.not_false, if_true]
        rfl
      · simp only [adP, o0] at h
        obtain ⟨x', h, ho⟩ := h
        simp only [h, ho, acv, Option.bind_some, Bool.not_true, Bool.false_eq_true, if_true, if_false, adW, ajX, as9]
        exact adP.ite (fun _ => rfl) fun _ => rfl
    · simp only [af0, hf, abr, adz, anT, decide_false, not_false_eq_true, Bool.not_false, apz, aaS, abH, o0, Option.bind_some, if_true, Bool.false_eq_true, if_false, reduceIte, Int.reduceEq]
      exact ⟨_, rfl, rfl⟩
  | raise t s =>
    have h := aoC (e := e) (w := w) (t := t) (v := v) hl s
    revert h
    simp only [af0, abr, adz, asa, aaS, abH, o0, afm, Option.bind_some, if_true, Bool.false_eq_true, if_false, reduceIte, Int.reduceEq]
    rcases ahk w t v e s with ⟨r | ⟨c, y⟩, e'⟩ <;> intro h
    · simp only [adP] at h
      simp only [h, Option.bind_some, Bool.not_false, if_true]
      rfl
    · simp only [adP] at h
      obtain ⟨x', h, ho⟩ := h
      simp only [h, ho, acv, Option.bind_some, Bool.not_true, Bool.false_eq_true, if_true, if_false, adW, ajX, as9]
      exact adP.ite (fun _ => rfl) fun _ => rfl
  | l2 t =>
    simp only [af0, abr, aaS, abH, o0, aft, aeZ, ack, Option.bind_some, if_true, Bool.false_eq_true, if_false, reduceIte, Int.reduceEq, adW, as9]
    exact adP.ite (fun _ => rfl) fun _ => rfl
  | push t s =>
    have h := alW (w := w) (v := v) (x := t) hK s
    have hn := ajG (e := e) (w := w) (v := v) (x := t) s
    revert h hn
    simp only [af0, abr, ahc, aaS, abH, o0, afm, Option.bind_some, if_true, Bool.false_eq_true, if_false, reduceIte, Int.reduceEq]
    rcases acj w v t e s with ⟨r | ⟨c, y⟩, e'⟩ <;> intro h hn
    · simp only [adP] at h
      simp only [h, Option.bind_some, Bool.not_false, if_true]
      rw [← hn.l]
      rfl
    · simp only [adP] at h
      obtain ⟨x', h, ho⟩ := h
      have hl' : e'.evs.length ≤ 999999999 := by have h1 : e'.evs.length ≤ e.evs.length + 0 := hn.ev; have := hK.ev; omega
      simp only [h, ho, acv, Option.bind_some, Bool.not_true, Bool.false_eq_true, if_true, if_false, agX hl']
      by_cases hc : c = 3
      · simp only [hc, if_true]; rfl
      · simp only [hc, if_false]; rfl
  | l4 t =>
    simp only [af0, abr, aaS, abH, o0, ajs, aeZ, Option.bind_some, if_true, Bool.false_eq_true, if_false, reduceIte, Int.reduceEq, adW]
    exact adP.ite (fun _ => ⟨_, rfl, rfl⟩) fun _ => rfl
theorem atp {w t : Int} (hK : EOk K e) (s : EnterS) : adP EnterV.o (atq e.l w t) (abo (atq e.l w t s) e) (agG w t e s) := by
  cases s with
  | l1 =>
    by_cases hf : IsT e t
    · simp only [agG, hf, abo, ahY, decide_true, not_true, Bool.not_true, aaS, abH, asB, o0, aoI, adw, Option.bind_some, if_true, Bool.false_eq_true, if_false, reduceIte, Int.reduceEq]
      rfl
    · simp only [agG, hf, abo, ahY, decide_false, not_false_eq_true, Bool.not_false, aaS, abH, o0, Option.bind_some, if_true, Bool.false_eq_true, if_false, reduceIte, Int.reduceEq]
      exact ⟨_, rfl, rfl⟩
  | l2 =>
    simp only [agG, abo, aaS, abH, o0, aft, adw, Option.bind_some, if_true, Bool.false_eq_true, if_false, reduceIte, Int.reduceEq]
    rfl
  | l3 =>
    simp only [agG, abo, aaS, abH, o0, ajz, aeZ, ack, Option.bind_some, if_true, Bool.false_eq_true, if_false, reduceIte, Int.reduceEq]
    rfl
  | l4 v s =>
    have h := alW (w := w) (v := v) (x := t) hK s
    have hn := ajG (e := e) (w := w) (v := v) (x := t) s
    revert h hn
    simp only [agG, abo, aaS, abH, o0, afm, Option.bind_some, if_true, Bool.false_eq_true, if_false, reduceIte, Int.reduceEq]
    rcases acj w v t e s with ⟨r | ⟨c, y⟩, e'⟩ <;> intro h hn
    · simp only [adP] at h
      simp only [h, Option.bind_some, Bool.not_false, if_true]
      rfl
    · simp only [adP] at h
      obtain ⟨x', h, ho⟩ := h
      simp only [h, ho, acv, Option.bind_some, Bool.not_true, Bool.false_eq_true, if_true, if_false]
      exact ⟨_, rfl, rfl⟩
end
section
variable [Tb] {K : Nat} {e : EnvP}
theorem bnd {α β : Type} {a : α} {f : α → Option β} : (some a).bind f = f a := by
  generalize h : some a = x
  subst h
  rfl
end
section
variable [Tb] {K : Nat} {e : EnvP}
end
structure SOk (l : List Int) : Prop where
  ne : l ≠ []
  le : l.length ≤ 999999999
section
variable {l : List Int}
theorem SOk.n (h : SOk l) : wi (((l.length : Nat) : Int) - 1) = ((l.length - 1 : Nat) : Int) := by
  have h1 := List.length_pos_iff.2 h.ne
  have h2 := h.le
  rw [acp (abc (by omega))]; omega
theorem SOk.a (h : SOk l) : aaf l ((l.length - 1 : Nat) : Int) = aaJ l := by
  have h1 := List.length_pos_iff.2 h.ne
  have h2 : l[l.length - 1]? = some (l[l.length - 1]'(by omega)) := List.getElem?_eq_getElem _
  simp only [aaf, atL, aaJ, Int.toNat_natCast, List.getLast?_eq_getElem?, h2]
  rfl
theorem SOk.g (h : SOk l) : (0 ≤ ((l.length - 1 : Nat) : Int) ∧ ((l.length - 1 : Nat) : Int) < ((l.length : Nat) : Int)) = True := by
  have h1 := List.length_pos_iff.2 h.ne
  exact eq_true ⟨by omega, by omega⟩
theorem SOk.g2 (h : SOk l) : (0 ≤ ((l.length - 1 : Nat) : Int) ∧ ((l.length - 1 : Nat) : Int) ≤ ((l.length : Nat) : Int)) = True := by
  have h1 := List.length_pos_iff.2 h.ne
  exact eq_true ⟨by omega, by omega⟩
theorem SOk.t (h : SOk l) : l.take (((l.length - 1 : Nat) : Int)).toNat = l.dropLast := by
  rw [List.dropLast_eq_take]; simp
theorem SOk.s (h : SOk l) (y : Int) : l.set (((l.length - 1 : Nat) : Int)).toNat y = l.dropLast ++ [y] := by
  obtain ⟨a, b, rfl⟩ : ∃ a b, l = a ++ [b] := ⟨l.dropLast, l.getLast h.ne, (List.dropLast_concat_getLast h.ne).symm⟩
  simp
end
section
variable [Tb] {e : EnvP} {o : OutV} {w ln id ch lv wt : Int} {st : List Int} {m : MV}
theorem alo {rs : List RecP} {t : Int} {r : RecP} (h : 0 ≤ t ∧ t < (rs.length : Int)) : aad (rs.set t.toNat r) t = r := atQ h
theorem aoB {rs : List RecP} {t : Int} (h : 0 ≤ t ∧ t < (rs.length : Int)) : rs.set t.toNat (aad rs t) = rs := by
  have h1 := aej (d := (dfR 26 : RecP)) (xs := rs) h
  have h2 : t.toNat < rs.length := by omega
  refine List.ext_getElem? fun i => ?_
  by_cases hi : t.toNat = i
  · subst hi
    rw [List.getElem?_set_self h2]
    exact h1.symm
  · rw [List.getElem?_set_ne hi]
def aeh (x : RecP) (p : List Ins) : Int :=
  if x.waiting ≠ -1 then 1
  else if x.pc < 0 ∨ (p.length : Int) ≤ x.pc then 16
  else if (abb p x.pc).op = 0 then 2
  else if (abb p x.pc).op = 1 then 4
  else if (abb p x.pc).a < 0 ∨ (x.kids.length : Int) ≤ (abb p x.pc).a ∨ aaf x.kids (abb p x.pc).a = -1 then 3
  else 9
theorem alG {x : RecP} (h1 : ¬ x.prog < 0) (h2 : ¬ (e.c.progs.length : Int) ≤ x.prog) : e.prog x = atL [] e.c.progs x.prog := by
  unfold EnvP.prog
  rw [if_neg (by omega)]
theorem aeq {x : RecP} (h : x.prog < 0 ∨ (e.c.progs.length : Int) ≤ x.prog) : e.prog x = [] := by
  unfold EnvP.prog
  rw [if_pos h]
theorem atF {x : RunV MV} (hS : SOk x.stack) (hT : 0 ≤ aaJ x.stack ∧ aaJ x.stack < (e.recs.length : Int)) : adS x e = some ((aeh (e.rc (aaJ x.stack)) (e.prog (e.rc (aaJ x.stack))), ()), (x, e, ())) := by
  unfold adS
  simp only [hS.n, hS.a, hS.g, hT, and_self, if_true, aoB hT]
  show _ = some ((aeh (aad e.recs (aaJ x.stack)) (e.prog (aad e.recs (aaJ x.stack))), ()), (x, e, ()))
  generalize aad e.recs (aaJ x.stack) = r
  by_cases h1 : r.prog < 0
  · rw [aeq (.inl h1)]
    simp only [h1, if_true, aeh, List.length_nil]
    split
    · rfl
    · rw [if_pos (show r.pc < 0 ∨ ((0 : Nat) : Int) ≤ r.pc by omega)]
      split
      · rfl
      · rw [if_pos (by omega)]
  by_cases h2 : (e.c.progs.length : Int) ≤ r.prog
  · rw [aeq (.inr h2)]
    simp only [h1, h2, if_true, if_false, aeh, List.length_nil]
    split
    · rfl
    · rw [if_pos (show r.pc < 0 ∨ ((0 : Nat) : Int) ≤ r.pc by omega)]
      split
      · rfl
      · rw [if_pos (by omega)]
  rw [alG h1 h2]
  generalize atL [] e.c.progs r.prog = p
  unfold aeh
  rw [if_neg h1, if_neg h2]
  rw [if_pos (show 0 ≤ r.prog ∧ r.prog < (e.c.progs.length : Int) by omega)]
  by_cases hw : r.waiting ≠ -1
  · rw [if_pos hw, if_pos hw]
  rw [if_neg hw, if_neg hw]
  by_cases h3 : r.pc < 0
  · rw [if_pos h3, if_pos (.inl h3)]
  by_cases h4 : (p.length : Int) ≤ r.pc
  · rw [if_neg h3, if_pos h4, if_pos (.inr h4)]
  rw [if_neg h3, if_neg h4, if_neg (show ¬ (r.pc < 0 ∨ (p.length : Int) ≤ r.pc) by omega)]
  have hp : 0 ≤ r.pc ∧ r.pc < (p.length : Int) := by omega
  rw [if_pos hp]
  by_cases c1 : (abb p r.pc).op = 0
  · rw [if_pos c1, if_pos c1]
  rw [if_neg c1, if_neg c1, if_pos hp]
  by_cases c2 : (abb p r.pc).op = 1
  · rw [if_pos c2, if_pos c2]
  rw [if_neg c2, if_neg c2, if_pos hp]
  by_cases h5 : (abb p r.pc).a < 0
  · rw [if_pos h5, if_pos (.inl h5)]
  by_cases h6 : (r.kids.length : Int) ≤ (abb p r.pc).a
  · rw [if_neg h5, if_pos h6, if_pos (.inr (.inl h6))]
  rw [if_neg h5, if_neg h6, if_pos (show 0 ≤ (abb p r.pc).a ∧ (abb p r.pc).a < (r.kids.length : Int) by omega)]
  by_cases h7 : aaf r.kids (abb p r.pc).a = -1
  · rw [if_pos h7, if_pos (.inr (.inr h7))]
  · rw [if_neg h7, if_neg (by omega)]
theorem aj8 {x : RunV MV} {v : Ev} (h : e.evs.length ≤ 999999999) : aaC x e v = some ((), (x, { e with evs := e.evs ++ [{ v with worker := x.worker }] }, ())) := by
  unfold aaC
  rw [agX h, bnd]
theorem awC (hS : SOk st) (hT : 0 ≤ aaJ st ∧ aaJ st < (e.recs.length : Int)) : aaB ⟨o, w, st, 1, m, id, ch, lv, wt⟩ e = some ((false, ()), (⟨o, w, st, 0, .nil, id, ch, lv, wt⟩, (e.pt 2 (agi e.l (aaJ st)) 0).pr (aaJ st) { e.rc (aaJ st) with waiting := -1 }, ())) := by
  unfold aaB
  simp only [hS.n, hS.a, hS.g, hT, and_self, if_true, ajs, adw, aae, bnd]
  rfl
theorem awB (hS : SOk st) (hT : 0 ≤ aaJ st ∧ aaJ st < (e.recs.length : Int)) (hp : ¬ ((e.rc (aaJ st)).pc < 0 ∨ ((e.prog (e.rc (aaJ st))).length : Int) ≤ (e.rc (aaJ st)).pc)) : aaB ⟨o, w, st, 2, m, id, ch, lv, wt⟩ e = some ((false, ()), (⟨o, w, st, 0, .nil, id, ch, lv, wt⟩, e.pr (aaJ st) (an0 (e.rc (aaJ st)) (abb (e.prog (e.rc (aaJ st))) (e.rc (aaJ st)).pc)), ())) := by
  unfold aaB
  simp only [hS.n, hS.a, hS.g, hT, and_self, if_true, Int.reduceEq, if_false, alo hT, List.set_set, aae, bnd, List.length_set]
  show _ = some ((false, ()), (_, { e with recs := e.recs.set (aaJ st).toNat (an0 (aad e.recs (aaJ st)) (abb (e.prog (aad e.recs (aaJ st))) (aad e.recs (aaJ st)).pc)) }, ()))
  have hp' : ¬ ((aad e.recs (aaJ st)).pc < 0 ∨ ((e.prog (aad e.recs (aaJ st))).length : Int) ≤ (aad e.recs (aaJ st)).pc) := hp
  generalize aad e.recs (aaJ st) = r at hp' ⊢
  by_cases h1 : r.prog < 0
  · rw [aeq (.inl h1)] at hp'; simp only [List.length_nil] at hp'; omega
  by_cases h2 : (e.c.progs.length : Int) ≤ r.prog
  · rw [aeq (.inr h2)] at hp'; simp only [List.length_nil] at hp'; omega
  rw [alG h1 h2] at hp' ⊢
  have h3 : (0 ≤ r.prog ∧ r.prog < (e.c.progs.length : Int)) = True := eq_true (by omega)
  have h4 : (0 ≤ r.pc ∧ r.pc < ((atL [] e.c.progs r.prog).length : Int)) = True := eq_true (by omega)
  simp only [h1, h2, h3, h4, if_true, if_false, an0]
  by_cases h5 : r.left = 0
  · simp only [h5, if_true]
    split <;> rfl
  · simp only [h5, if_false]
    split <;> rfl
theorem awA (hS : SOk st) (hT : 0 ≤ aaJ st ∧ aaJ st < (e.recs.length : Int)) : aaB ⟨o, w, st, 3, m, id, ch, lv, wt⟩ e = some ((false, ()), (⟨o, w, st, 0, .nil, id, ch, lv, wt⟩, e.pr (aaJ st) { e.rc (aaJ st) with pc := wi ((e.rc (aaJ st)).pc + 1) }, ())) := by
  unfold aaB
  simp only [hS.n, hS.a, hS.g, hT, and_self, if_true, Int.reduceEq, if_false, aae, bnd]
  rfl
end
section
variable [Tb] {e : EnvP} {o : OutV} {w ln id ch lv wt : Int} {st : List Int} {m : MV}
theorem arR (hS : SOk st) (hT : 0 ≤ aaJ st ∧ aaJ st < (e.recs.length : Int)) (hp : ¬ ((e.rc (aaJ st)).pc < 0 ∨ ((e.prog (e.rc (aaJ st))).length : Int) ≤ (e.rc (aaJ st)).pc)) (hl : e.evs.length ≤ 999999999) (hk : (e.rc (aaJ st)).kids.length ≤ 999999999) (v : Int) :
    aby ⟨o, w, st, 4, m, id, ch, lv, wt⟩ e 3 v = some ((false, ()), (⟨o, w, st, 0, .nil, id, ch, lv, wt⟩, (e.pr (aaJ st) { e.rc (aaJ st) with pc := wi ((e.rc (aaJ st)).pc + 1), kids := (e.rc (aaJ st)).kids ++ [-1] }).em 4 w (aaJ st) 0 0, ())) := by
  unfold aby
  have he : ∀ (x : RunV MV) (rs : List RecP) (v : Ev), aaC x { e with recs := rs } v = some ((), (x, { e with recs := rs, evs := e.evs ++ [{ v with worker := x.worker }] }, ())) := fun x rs v => aj8 (e := { e with recs := rs }) hl
  simp only [hS.n, hS.a, hS.g, hT, and_self, if_true, alo hT, List.set_set, List.length_set]
  have hp' : ¬ ((aad e.recs (aaJ st)).pc < 0 ∨ ((e.prog (aad e.recs (aaJ st))).length : Int) ≤ (aad e.recs (aaJ st)).pc) := hp
  have hk' : (aad e.recs (aaJ st)).kids.length ≤ 999999999 := hk
  show _ = some ((false, ()), (_, EnvP.em { e with recs := e.recs.set (aaJ st).toNat { aad e.recs (aaJ st) with pc := wi ((aad e.recs (aaJ st)).pc + 1), kids := (aad e.recs (aaJ st)).kids ++ [-1] } } 4 w (aaJ st) 0 0, ()))
  generalize aad e.recs (aaJ st) = r at hp' hk' ⊢
  by_cases h1 : r.prog < 0
  · rw [aeq (.inl h1)] at hp'; simp only [List.length_nil] at hp'; omega
  by_cases h2 : (e.c.progs.length : Int) ≤ r.prog
  · rw [aeq (.inr h2)] at hp'; simp only [List.length_nil] at hp'; omega
  rw [alG h1 h2] at hp'
  rw [if_neg h1, if_neg h2, if_pos (show 0 ≤ r.prog ∧ r.prog < (e.c.progs.length : Int) by omega), if_pos (show 0 ≤ r.pc ∧ r.pc < ((atL [] e.c.progs r.prog).length : Int) by omega), if_pos (show (((r.kids.length + ([-1] : List Int).length : Nat)) : Int) < 1000000000000 by rw [List.length_singleton]; omega)]
  rw [he, bnd, aae, bnd]
  rfl
theorem at1 (hS : SOk st) (hT : 0 ≤ aaJ st ∧ aaJ st < (e.recs.length : Int)) (hp : ¬ ((e.rc (aaJ st)).pc < 0 ∨ ((e.prog (e.rc (aaJ st))).length : Int) ≤ (e.rc (aaJ st)).pc)) (hk : (e.rc (aaJ st)).kids.length ≤ 999999999) (v : Int) (hv : 0 ≤ v ∧ v < (e.recs.length : Int)) :
    aby ⟨o, w, st, 4, m, id, ch, lv, wt⟩ e 1 v = some ((false, ()), (⟨o, w, st, 5, .publish ⟨o0, v, (abb (e.prog (e.rc (aaJ st))) (e.rc (aaJ st)).pc).b, 1⟩, v, ch, (abb (e.prog (e.rc (aaJ st))) (e.rc (aaJ st)).pc).b, wt⟩, (e.pr (aaJ st) { e.rc (aaJ st) with pc := wi ((e.rc (aaJ st)).pc + 1), kids := (e.rc (aaJ st)).kids ++ [v] }).pr v (asX (abb (e.prog (e.rc (aaJ st))) (e.rc (aaJ st)).pc).a (aaJ st)), ())) := by
  unfold aby
  simp only [hS.n, hS.a, hS.g, hT, and_self, if_true, alo hT, List.set_set, List.length_set, Int.reduceEq, if_false, hv]
  have hp' : ¬ ((aad e.recs (aaJ st)).pc < 0 ∨ ((e.prog (aad e.recs (aaJ st))).length : Int) ≤ (aad e.recs (aaJ st)).pc) := hp
  have hk' : (aad e.recs (aaJ st)).kids.length ≤ 999999999 := hk
  show _ = some ((false, ()), ((⟨o, w, st, 5, .publish ⟨o0, v, (abb (e.prog (aad e.recs (aaJ st))) (aad e.recs (aaJ st)).pc).b, 1⟩, v, ch, (abb (e.prog (aad e.recs (aaJ st))) (aad e.recs (aaJ st)).pc).b, wt⟩ : RunV MV), ({ e with recs := (e.recs.set (aaJ st).toNat { aad e.recs (aaJ st) with pc := wi ((aad e.recs (aaJ st)).pc + 1), kids := (aad e.recs (aaJ st)).kids ++ [v] }).set v.toNat ⟨(abb (e.prog (aad e.recs (aaJ st))) (aad e.recs (aaJ st)).pc).a, aaJ st, 0, 0, -1, [], false⟩ } : EnvP), ()))
  generalize aad e.recs (aaJ st) = r at hp' hk' ⊢
  by_cases h1 : r.prog < 0
  · rw [aeq (.inl h1)] at hp'; simp only [List.length_nil] at hp'; omega
  by_cases h2 : (e.c.progs.length : Int) ≤ r.prog
  · rw [aeq (.inr h2)] at hp'; simp only [List.length_nil] at hp'; omega
  rw [alG h1 h2] at hp' ⊢
  rw [if_neg h1, if_neg h2, if_pos (show 0 ≤ r.prog ∧ r.prog < (e.c.progs.length : Int) by omega), if_pos (show 0 ≤ r.pc ∧ r.pc < ((atL [] e.c.progs r.prog).length : Int) by omega), if_pos (show (((r.kids.length + ([v] : List Int).length : Nat)) : Int) < 1000000000000 by rw [List.length_singleton]; omega)]
  rw [afP, bnd, aae, bnd]
theorem az7 (hS : SOk st) (hT : 0 ≤ aaJ st ∧ aaJ st < (e.recs.length : Int)) (hp : ¬ ((e.rc (aaJ st)).pc < 0 ∨ ((e.prog (e.rc (aaJ st))).length : Int) ≤ (e.rc (aaJ st)).pc)) (ha : ¬ ((abb (e.prog (e.rc (aaJ st))) (e.rc (aaJ st)).pc).a < 0 ∨ ((e.rc (aaJ st)).kids.length : Int) ≤ (abb (e.prog (e.rc (aaJ st))) (e.rc (aaJ st)).pc).a)) :
    aaD ⟨o, w, st, 9, m, id, ch, lv, wt⟩ e = some ((false, ()), (⟨o, w, st, 10, .nil, id, aaf (e.rc (aaJ st)).kids (abb (e.prog (e.rc (aaJ st))) (e.rc (aaJ st)).pc).a, lv, wt⟩, (e.pt 2 (agi e.l (aaJ st)) (wu (wi (aaf (e.rc (aaJ st)).kids (abb (e.prog (e.rc (aaJ st))) (e.rc (aaJ st)).pc).a + 1)))).pr (aaJ st) { e.rc (aaJ st) with pc := wi ((e.rc (aaJ st)).pc + 1), waiting := aaf (e.rc (aaJ st)).kids (abb (e.prog (e.rc (aaJ st))) (e.rc (aaJ st)).pc).a }, ())) := by
  unfold aaD
  simp only [hS.n, hS.a, hS.g, hT, and_self, if_true, aoB hT, alo hT, List.set_set, List.length_set]
  have hp' : ¬ ((aad e.recs (aaJ st)).pc < 0 ∨ ((e.prog (aad e.recs (aaJ st))).length : Int) ≤ (aad e.recs (aaJ st)).pc) := hp
  have ha' : ¬ ((abb (e.prog (aad e.recs (aaJ st))) (aad e.recs (aaJ st)).pc).a < 0 ∨ ((aad e.recs (aaJ st)).kids.length : Int) ≤ (abb (e.prog (aad e.recs (aaJ st))) (aad e.recs (aaJ st)).pc).a) := ha
  show _ = some ((false, ()), ((⟨o, w, st, 10, .nil, id, aaf (aad e.recs (aaJ st)).kids (abb (e.prog (aad e.recs (aaJ st))) (aad e.recs (aaJ st)).pc).a, lv, wt⟩ : RunV MV), EnvP.pr (e.pt 2 (agi e.l (aaJ st)) (wu (wi (aaf (aad e.recs (aaJ st)).kids (abb (e.prog (aad e.recs (aaJ st))) (aad e.recs (aaJ st)).pc).a + 1)))) (aaJ st) { aad e.recs (aaJ st) with pc := wi ((aad e.recs (aaJ st)).pc + 1), waiting := aaf (aad e.recs (aaJ st)).kids (abb (e.prog (aad e.recs (aaJ st))) (aad e.recs (aaJ st)).pc).a }, ()))
  generalize aad e.recs (aaJ st) = r at hp' ha' ⊢
  by_cases h1 : r.prog < 0
  · rw [aeq (.inl h1)] at hp'; simp only [List.length_nil] at hp'; omega
  by_cases h2 : (e.c.progs.length : Int) ≤ r.prog
  · rw [aeq (.inr h2)] at hp'; simp only [List.length_nil] at hp'; omega
  rw [alG h1 h2] at hp' ha' ⊢
  rw [if_neg h1, if_neg h2, if_pos (show 0 ≤ r.prog ∧ r.prog < (e.c.progs.length : Int) by omega), if_pos (show 0 ≤ r.pc ∧ r.pc < ((atL [] e.c.progs r.prog).length : Int) by omega), if_pos (show 0 ≤ (abb (atL [] e.c.progs r.prog) r.pc).a ∧ (abb (atL [] e.c.progs r.prog) r.pc).a < (r.kids.length : Int) by omega)]
  rw [ajs, bnd, adw, bnd, aae, bnd]
  rfl
theorem aqN {α β : Type} {X : Option ((Bool × Unit) × (α × β × Unit))} : (X.bind fun r => some ((r.1.1, ()), (r.2.1, r.2.2.1, ()))) = X := by cases X <;> rfl
theorem anx (hS : SOk st) (hT : IsT e (aaJ st)) (hc : e.c.tasks = (e.recs.length : Int)) (X : Option ((Bool × Unit) × (RunV MV × EnvP × Unit))) (a b c : Option ((Bool × Unit) × (RunV MV × EnvP × Unit))) :
    (if aaJ st < 0 then a else if e.c.tasks ≤ aaJ st then b else if (e.recs.length : Int) ≤ aaJ st then c else X) = X := by
  have h1 := hT.1
  have h2 := hT.2
  rw [if_neg (by omega), if_neg (by omega), if_neg (by omega)]
theorem ajl (hS : SOk st) (hT : IsT e (aaJ st)) (hc : e.c.tasks = (e.recs.length : Int)) (h : 4 ≤ ln ∧ ln ≤ 8) : aaU ⟨o0, w, st, ln, m, id, ch, lv, wt⟩ e = aa2 ⟨o0, w, st, ln, m, id, ch, lv, wt⟩ e := by
  unfold aaU
  simp only [aaS, abH, o0, bnd, hS.n, hS.a, hS.g, if_true, Bool.false_eq_true, if_false, aqN, anx hS hT hc]
  rw [if_neg (by omega), if_neg (by omega), if_neg (by omega), if_neg (by omega), if_pos h.1, if_pos h.2]
theorem aif (hS : SOk st) (hT : IsT e (aaJ st)) (hc : e.c.tasks = (e.recs.length : Int)) (h : 9 ≤ ln ∧ ln ≤ 15) : aaU ⟨o0, w, st, ln, m, id, ch, lv, wt⟩ e = aaD ⟨o0, w, st, ln, m, id, ch, lv, wt⟩ e := by
  unfold aaU
  simp only [aaS, abH, o0, bnd, hS.n, hS.a, hS.g, if_true, Bool.false_eq_true, if_false, aqN, anx hS hT hc]
  rw [if_neg (by omega), if_neg (by omega), if_neg (by omega), if_neg (by omega), if_pos (show 4 ≤ ln by omega), if_neg (by omega), if_pos h.1, if_pos h.2]
theorem agw (hS : SOk st) (hT : IsT e (aaJ st)) (hc : e.c.tasks = (e.recs.length : Int)) (h : 16 ≤ ln) : aaU ⟨o0, w, st, ln, m, id, ch, lv, wt⟩ e = aat ⟨o0, w, st, ln, m, id, ch, lv, wt⟩ e := by
  unfold aaU
  simp only [aaS, abH, o0, bnd, hS.n, hS.a, hS.g, if_true, Bool.false_eq_true, if_false, aqN, anx hS hT hc]
  rw [if_neg (by omega), if_neg (by omega), if_neg (by omega), if_neg (by omega), if_pos (show 4 ≤ ln by omega), if_neg (by omega), if_pos (show 9 ≤ ln by omega), if_neg (by omega)]
theorem auv (hS : SOk st) (hT : IsT e (aaJ st)) (hc : e.c.tasks = (e.recs.length : Int)) {c : Int} (h : aeh (e.rc (aaJ st)) (e.prog (e.rc (aaJ st))) = c) (hR : 0 ≤ aaJ st ∧ aaJ st < (e.recs.length : Int)) :
    aaU ⟨o0, w, st, 0, m, id, ch, lv, wt⟩ e = if c = 4 then aa2 ⟨o0, w, st, 4, .alloc ⟨o0⟩, id, ch, lv, wt⟩ e else if c = 1 ∨ c = 2 ∨ c = 3 then aaB ⟨o0, w, st, c, m, id, ch, lv, wt⟩ e else if c = 9 then aaD ⟨o0, w, st, c, m, id, ch, lv, wt⟩ e else aat ⟨o0, w, st, c, m, id, ch, lv, wt⟩ e := by
  have hch := atF (x := ⟨⟨false, 0, 0⟩, w, st, 0, m, id, ch, lv, wt⟩) hS hR
  simp only [h] at hch
  have hv : c = 1 ∨ c = 16 ∨ c = 2 ∨ c = 4 ∨ c = 3 ∨ c = 9 := by
    rw [← h]
    unfold aeh
    repeat' split
    all_goals simp
  unfold aaU
  simp only [aaS, abH, o0, bnd, hS.n, hS.a, hS.g, if_true, Bool.false_eq_true, if_false, aqN, anx hS hT hc, hch, aeY]
  rcases hv with rfl | rfl | rfl | rfl | rfl | rfl <;> simp only [Int.reduceEq, Int.reduceLE, if_true, if_false, or_self, or_true, true_or, false_or, or_false]
end
@[reducible] def ayn (l : LayV) (w id lv wt : Int) : RunC → Int × MV
  | .next => (0, .nil)
  | .s2 s => (5, .publish (ajo id lv s))
  | .s3 s => (6, .lpush (alX l w lv id s))
  | .s4 s => (7, .wake (apu w lv s))
  | .s5 => (8, .claim ⟨o0, w, id⟩)
  | .j2 => (10, .nil)
  | .j3 => (11, .nil)
  | .j4 => (12, .nil)
  | .j5 s => (13, .walk (av3 l w lv s))
  | .j6 => (14, .nil)
  | .j7 => (15, .nil)
  | .f2 => (17, .nil)
  | .f3 => (18, .nil)
  | .f4 s => (19, .enter (atq l w wt s))
  | .f5 v s => (20, .wake (apu w v s))
  | .f6 => (21, .claim ⟨o0, w, wt⟩)
@[reducible] def aot (l : LayV) (w : Int) (r : RunS) : RunV MV :=
  ⟨o0, w, r.stack, (ayn l w r.id r.level r.waiter r.c).1, (ayn l w r.id r.level r.waiter r.c).2, r.id, r.child, r.level, r.waiter⟩
section
variable [Tb] {K : Nat} {e : EnvP} {w : Int}
def ogS (x : RunV MV) : OutV := if x.o.code = 4 then x.o else if x.stack.isEmpty then x.o else ⟨false, 0, 0⟩
theorem agC {l : LayV} {e' : EnvP} {st : List Int} {ln id ch lv wt : Int} {m : MV} {c : RunC} (hS : SOk st) : adP ogS (aot l w) ((aaq ⟨⟨false, 0, 0⟩, w, st, ln, m, id, ch, lv, wt⟩).bind fun r => some ((r.1.1, ()), (r.2.1, e', ()))) (ahX ⟨st, id, ch, lv, wt, c⟩ e') := by
  have h1 := List.length_pos_iff.2 hS.ne
  have h2 := hS.le
  unfold aaq ahX
  simp only [hS.n, hS.g2, hS.t, if_true, List.length_dropLast, abH, aae, bnd, ajX, adW]
  by_cases hl : st.length = 1
  · rw [if_pos (by omega), if_pos hl]
    obtain ⟨x, rfl⟩ := List.length_eq_one_iff.1 hl
    exact ⟨_, rfl, rfl⟩
  · rw [if_neg (by omega), if_neg hl]; rfl
theorem awJ (hK : EOk K e) (hk : K ≤ 100000000) (r : RunS) (hS : SOk r.stack) : adP ogS (aot e.l w) (aaU (aot e.l w r) e) (amA w e r) := by
  have hl : e.evs.length ≤ 999999999 := by have := hK.ev; omega
  obtain ⟨st, id, ch, lv, wt, c⟩ := r
  have hS : SOk st := hS
  unfold amA
  by_cases hT : IsT e (aaJ st)
  · have hR : 0 ≤ aaJ st ∧ aaJ st < (e.recs.length : Int) := ⟨hT.1, by have := hT.2; have := hK.ct; omega⟩
    have hct := hK.ct
    have he : ∀ (x : RunV MV) (e' : EnvP) (_ : e'.evs.length ≤ 999999999) (v : Ev), aaC x e' v = some ((), (x, { e' with evs := e'.evs ++ [{ v with worker := x.worker }] }, ())) := fun x e' h v => aj8 h
    rw [if_neg (fun h => h hT)]
    unfold afq
    cases c with
    | next =>
      simp only [aiR]
      have hkd : (e.rc (aaJ st)).kids.length ≤ 999999999 := by have := anD hR K hK.kd; omega
      have hnx := fun c h => auv (w := w) (id := id) (ch := ch) (lv := lv) (wt := wt) (m := .nil) hS hT hct (c := c) h hR
      by_cases c1 : (e.rc (aaJ st)).waiting ≠ -1
      · rw [if_pos c1]
        rw [hnx 1 (by unfold aeh; rw [if_pos c1])]
        simp only [Int.reduceEq, if_false, true_or, if_true]
        rw [awC hS hR]
        rfl
      rw [if_neg c1]
      by_cases c2 : (e.rc (aaJ st)).pc < 0 ∨ ((e.prog (e.rc (aaJ st))).length : Int) ≤ (e.rc (aaJ st)).pc
      · rw [if_pos c2]
        rw [hnx 16 (by unfold aeh; rw [if_neg c1, if_pos c2])]
        simp only [Int.reduceEq, if_false, or_self]
        simp only [aat, hS.n, hS.a, hS.g, if_true, aft, adw, aae, bnd]
        rfl
      rw [if_neg c2]
      by_cases c3 : (abb (e.prog (e.rc (aaJ st))) (e.rc (aaJ st)).pc).op = 0
      · rw [if_pos c3]
        rw [hnx 2 (by unfold aeh; rw [if_neg c1, if_neg c2, if_pos c3])]
        simp only [Int.reduceEq, if_false, false_or, true_or, or_true, if_true]
        rw [awB hS hR c2]
        rfl
      rw [if_neg c3]
      by_cases c4 : (abb (e.prog (e.rc (aaJ st))) (e.rc (aaJ st)).pc).op = 1
      · rw [if_pos c4]
        rw [hnx 4 (by unfold aeh; rw [if_neg c1, if_neg c2, if_neg c3, if_pos c4])]
        obtain ⟨x', h, ho⟩ := at0 (e := e)
        simp only [if_true, aa2, ad8, bnd, h, acK, Bool.not_true, Bool.false_eq_true, if_false]
        by_cases ci : IsT e (wi (e.gt 0))
        · rw [if_pos ci] at ho ⊢
          have hv : 0 ≤ wi (e.gt 0) ∧ wi (e.gt 0) < ((aiI e).recs.length : Int) := ⟨ci.1, by have := ci.2; show _ < (e.recs.length : Int); omega⟩
          have ha := at1 (e := aiI e) (o := o0) (w := w) (id := id) (ch := ch) (lv := lv) (wt := wt) (m := .alloc x') hS hR c2 hkd (wi (e.gt 0)) hv
          simp only [ho]
          rw [ha]
          rfl
        · rw [if_neg ci] at ho ⊢
          have ha := arR (e := aiI e) (o := o0) (w := w) (id := id) (ch := ch) (lv := lv) (wt := wt) (m := .alloc x') hS hR c2 hl hkd 0
          simp only [ho]
          rw [ha]
          rfl
      rw [if_neg c4]
      by_cases c5 : (abb (e.prog (e.rc (aaJ st))) (e.rc (aaJ st)).pc).a < 0 ∨ ((e.rc (aaJ st)).kids.length : Int) ≤ (abb (e.prog (e.rc (aaJ st))) (e.rc (aaJ st)).pc).a ∨ aaf (e.rc (aaJ st)).kids (abb (e.prog (e.rc (aaJ st))) (e.rc (aaJ st)).pc).a = -1
      · rw [if_pos c5]
        rw [hnx 3 (by unfold aeh; rw [if_neg c1, if_neg c2, if_neg c3, if_neg c4, if_pos c5])]
        simp only [Int.reduceEq, if_false, false_or, or_true, if_true]
        rw [awA hS hR]
        rfl
      · rw [if_neg c5]
        rw [hnx 9 (by unfold aeh; rw [if_neg c1, if_neg c2, if_neg c3, if_neg c4, if_neg c5])]
        simp only [Int.reduceEq, if_false, or_self, if_true]
        rw [az7 hS hR c2 (fun h => c5 (h.elim .inl fun h => .inr (.inl h)))]
        rfl
    | s2 s =>
      have h := apH (e := e) (t := id) (v := lv) s
      have hn := amW (e := e) (t := id) (v := lv) s
      simp only [ajl hS hT hct (show (4 : Int) ≤ 5 ∧ (5 : Int) ≤ 8 by decide)]
      revert h hn
      simp only [aa2, ad8, bnd]
      rcases aci id lv e s with ⟨r | ⟨c, y⟩, e'⟩ <;> intro h hn
      · simp only [adP] at h
        simp only [h, bnd, Bool.not_false, if_true]
        rfl
      · simp only [adP] at h
        obtain ⟨x', h, ho⟩ := h
        have hl' : e'.evs.length ≤ 999999999 := by have h1 : e'.evs.length ≤ e.evs.length + 0 := hn.ev; have := hK.ev; omega
        simp only [h, ho, acK, bnd, Bool.not_true, Bool.false_eq_true, if_false, if_true, Int.reduceEq, hS.n, hS.a, hS.g, he _ e' hl', ack, aae]
        rfl
    | s3 s =>
      have h := alW (w := w) (v := lv) (x := id) hK s
      simp only [ajl hS hT hct (show (4 : Int) ≤ 6 ∧ (6 : Int) ≤ 8 by decide)]
      revert h
      simp only [aa2, ad8, bnd]
      rcases acj w lv id e s with ⟨r | ⟨c, y⟩, e'⟩ <;> intro h
      · simp only [adP] at h
        simp only [h, bnd, Bool.not_false, if_true]
        rfl
      · simp only [adP] at h
        obtain ⟨x', h, ho⟩ := h
        simp only [h, ho, acK, bnd, Bool.not_true, Bool.false_eq_true, if_false, if_true, Int.reduceEq, acD, acL, aae]
        by_cases hc : c = 3
        · simp only [hc, if_true]; rfl
        · simp only [hc, if_false]; rfl
    | s4 s =>
      have h := aqt (e := e) (w := w) (v := lv) hl s
      simp only [ajl hS hT hct (show (4 : Int) ≤ 7 ∧ (7 : Int) ≤ 8 by decide)]
      revert h
      simp only [aa2, ad8, bnd]
      rcases ai4 w lv e s with ⟨r | ⟨c, y⟩, e'⟩ <;> intro h
      · simp only [adP] at h
        simp only [h, bnd, Bool.not_false, if_true]
        rfl
      · simp only [adP] at h
        obtain ⟨x', h, ho⟩ := h
        simp only [h, ho, acK, bnd, Bool.not_true, Bool.false_eq_true, if_false, if_true, Int.reduceEq, aae]
        rfl
    | s5 =>
      obtain ⟨x', h, ho⟩ := apf (w := w) (t := id) hl hK.st
      simp only [ajl hS hT hct (show (4 : Int) ≤ 8 ∧ (8 : Int) ≤ 8 by decide)]
      simp only [aa2, ad8, bnd, h, acK, Bool.not_true, Bool.false_eq_true, if_false, if_true, Int.reduceEq, aae]
      have hsl : ((st.length + ([id] : List Int).length : Nat) : Int) < 1000000000000 := by
        have h2 : st.length ≤ 999999999 := hS.le
        clear hR hct hl hk hK
        trace_state
        rw [List.length_singleton]
        omega
      rcases Bool.eq_false_or_eq_true (aiH id e) with hc | hc
      · simp only [hc, if_true] at ho ⊢
        simp only [ho, if_true, hsl]
        rfl
      · simp only [hc, Bool.false_eq_true, if_false] at ho ⊢
        simp only [ho, Int.reduceEq, if_false]
        rfl
    | j2 =>
      simp only [aif hS hT hct (show (9 : Int) ≤ 10 ∧ (10 : Int) ≤ 15 by decide), aaD, hS.n, hS.a, hS.g, if_true, Int.reduceEq, if_false, aft, adw, aae, bnd]
      rfl
    | j3 =>
      simp only [aif hS hT hct (show (9 : Int) ≤ 11 ∧ (11 : Int) ≤ 15 by decide), aaD, hS.n, hS.a, hS.g, if_true, Int.reduceEq, if_false, anH, anK, aae, he _ { e with m := e.m.cas (af7 e.l ch) 0 (wu (wi (aaJ st + 1))) } hl, bnd]
      exact adP.iteN (fun _ => rfl) fun _ => rfl
    | j4 =>
      simp only [aif hS hT hct (show (9 : Int) ≤ 12 ∧ (12 : Int) ≤ 15 by decide), aaD, hS.n, hS.a, hS.g, if_true, Int.reduceEq, if_false, ajz, aeZ, ah6, aae, bnd]
      rfl
    | j5 s =>
      have h := auf (w := w) (v := lv) hK hk s
      have hn := arW (e := e) (w := w) (v := lv) s
      simp only [aif hS hT hct (show (9 : Int) ≤ 13 ∧ (13 : Int) ≤ 15 by decide)]
      revert h hn
      simp only [aaD, hS.n, hS.a, hS.g, if_true, Int.reduceEq, if_false, ad8, bnd]
      rcases af0 w lv e s with ⟨r | ⟨c, y⟩, e'⟩ <;> intro h hn
      · simp only [adP] at h
        simp only [h, bnd, Bool.not_false, if_true]
        rfl
      · simp only [adP] at h
        obtain ⟨x', h, ho⟩ := h
        have hl' : e'.evs.length ≤ 999999999 := by have h1 : e'.evs.length ≤ e.evs.length + 1 := hn.ev; have := hK.ev; omega
        simp only [h, bnd, Bool.not_true, Bool.false_eq_true, if_false, he _ e' hl']
        exact agC hS
    | j6 =>
      simp only [aif hS hT hct (show (9 : Int) ≤ 14 ∧ (14 : Int) ≤ 15 by decide), aaD, hS.n, hS.a, hS.g, if_true, Int.reduceEq, if_false, aft, adw, aae, bnd]
      rfl
    | j7 =>
      simp only [aif hS hT hct (show (9 : Int) ≤ 15 ∧ (15 : Int) ≤ 15 by decide), aaD, hS.n, hS.a, hS.g, hR, and_self, if_true, Int.reduceEq, if_false, ajs, adw, aae, bnd]
      have he2 : ∀ (x : RunV MV) (m' : MemV) (rs : List RecP) (v : Ev), aaC x { e with m := m', recs := rs } v = some ((), (x, { e with m := m', recs := rs, evs := e.evs ++ [{ v with worker := x.worker }] }, ())) := fun x m' rs v => aj8 (e := { e with m := m', recs := rs }) hl
      rw [he2, bnd]
      rfl
    | f2 =>
      simp only [agw hS hT hct (show (16 : Int) ≤ 17 by decide), aat, hS.n, hS.a, hS.g, if_true, Int.reduceEq, if_false, anH, anK, aae, he _ { e with m := e.m.cas (af7 e.l (aaJ st)) 0 4294967296 } hl, bnd]
      refine adP.ite (fun _ => ?_) fun _ => rfl
      exact agC hS
    | f3 =>
      simp only [agw hS hT hct (show (16 : Int) ≤ 18 by decide), aat, hS.n, hS.a, hS.g, if_true, Int.reduceEq, if_false, anH, aeZ, aae, agk, bnd]
      by_cases h1 : wi (wi (e.m.gt (af7 e.l (aaJ st))) - 1) < 0
      · rw [if_pos h1, if_neg (show ¬ IsT e (wi (wi (e.m.gt (af7 e.l (aaJ st))) - 1)) from fun h => by have := h.1; omega)]
        exact agC hS
      by_cases h2 : e.c.tasks ≤ wi (wi (e.m.gt (af7 e.l (aaJ st))) - 1)
      · rw [if_neg h1, if_pos h2, if_neg (show ¬ IsT e (wi (wi (e.m.gt (af7 e.l (aaJ st))) - 1)) from fun h => by have := h.2; omega)]
        exact agC hS
      · rw [if_neg h1, if_neg h2, if_pos (show IsT e (wi (wi (e.m.gt (af7 e.l (aaJ st))) - 1)) from ⟨by omega, by omega⟩)]
        rfl
    | f4 s =>
      have h := atp (w := w) (t := wt) hK s
      simp only [agw hS hT hct (show (16 : Int) ≤ 19 by decide)]
      revert h
      simp only [aat, hS.n, hS.a, hS.g, if_true, Int.reduceEq, if_false, ad8, bnd]
      rcases agG w wt e s with ⟨r | ⟨c, y⟩, e'⟩ <;> intro h
      · simp only [adP] at h
        simp only [h, bnd, Bool.not_false, if_true]
        rfl
      · simp only [adP] at h
        obtain ⟨x', h, ho⟩ := h
        simp only [h, ho, acK, bnd, Bool.not_true, Bool.false_eq_true, if_false, if_true, Int.reduceEq, acD, acL, aae]
        by_cases hc : c = 3
        · simp only [hc, if_true]; rfl
        · simp only [hc, if_false]; rfl
    | f5 v s =>
      have h := aqt (e := e) (w := w) (v := v) hl s
      simp only [agw hS hT hct (show (16 : Int) ≤ 20 by decide)]
      revert h
      simp only [aat, hS.n, hS.a, hS.g, if_true, Int.reduceEq, if_false, ad8, bnd]
      rcases ai4 w v e s with ⟨r | ⟨c, y⟩, e'⟩ <;> intro h
      · simp only [adP] at h
        simp only [h, bnd, Bool.not_false, if_true]
        rfl
      · simp only [adP] at h
        obtain ⟨x', h, ho⟩ := h
        simp only [h, ho, acK, bnd, Bool.not_true, Bool.false_eq_true, if_false]
        exact agC hS
    | f6 =>
      obtain ⟨x', h, ho⟩ := apf (w := w) (t := wt) hl hK.st
      simp only [agw hS hT hct (show (16 : Int) ≤ 21 by decide)]
      simp only [aat, hS.n, hS.a, hS.g, hS.s, ad8, bnd, h, acK, Bool.not_true, Bool.false_eq_true, if_false, if_true, Int.reduceEq, aae]
      rcases Bool.eq_false_or_eq_true (aiH wt e) with hc | hc
      · simp only [hc, if_true] at ho ⊢
        simp only [ho, if_true]
        rfl
      · simp only [hc, Bool.false_eq_true, if_false] at ho ⊢
        simp only [ho, Int.reduceEq, if_false]
        exact agC hS
  · rw [if_pos hT]
    have hb : aaJ st < 0 ∨ e.c.tasks ≤ aaJ st := by
      unfold IsT at hT
      omega
    simp only [aaU, aaS, abH, o0, bnd, hS.n, hS.a, hS.g, if_true, Bool.false_eq_true, if_false]
    rcases hb with hb | hb
    · rw [if_pos hb]; exact ⟨_, rfl, rfl⟩
    · by_cases h0 : aaJ st < 0
      · rw [if_pos h0]; exact ⟨_, rfl, rfl⟩
      · rw [if_neg h0, if_pos hb]; exact ⟨_, rfl, rfl⟩
end
end
end Go.Proofs.YtlcelajkhklkbaaGreat
