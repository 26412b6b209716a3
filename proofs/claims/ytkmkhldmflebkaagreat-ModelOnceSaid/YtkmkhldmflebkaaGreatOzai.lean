/- Evaluation by itself: contracts in a row. No program occurs here. Evaluation by itself: methods of machines behind interfaces. No program occurs here. The reference's and the program's data as kinds. No program occurs here. The seat's kinds. A row that a call has made. No program occurs here. Evaluation by itself: slices that came in. No program occurs here. Contracts proved in another style,in the evaluator's words. No program occurs here. A configuration that came in. Walks: the checks of a configuration (config and its reference),function by function. Walks: the checks of a configuration's programs and submissions (config). The check of a configuration,in the evaluator's words. Walks: the check of a configuration (its reference),and whether it is small. The reference's check of a configuration,in the evaluator's words. What it means that an answer is there; numbers; loops. Configurations in the evaluator's form. The reference: memory,layout. The reference: numbers. -/
import Derived.Test.YtkmkhldmflebkaaGreatOzah
import Derived.Test.YtkmkhldmflebkaaGreatOzae
import Derived.Test.YtkmkhldmflebkaaGreatOzac
import Derived.Test.YtkmkhldmflebkaaGreatProg
import Derived.Test.YtkmkhldmflebkaaGreatChecked
import Derived.Laws.AppendOwn
import Derived.Test.YtkmkhldmflebkaaGreatRows
import Derived.Test.YtkmkhldmflebkaaGreatOzaa
set_option linter.all false
namespace Go.Proofs.YtkmkhldmflebkaaGreat
section
open Go Go.RowKit
section
variable {S : Shp}
variable [Tb]
def CO (P : Program) (c : Con S) : Prop := auR S P c.f c.ps c.rs c.spec
def Oks (P : Program) : List (Con S) → Prop
 | [] =>True
 | c :: l =>CO P c ∧ Oks P l
theorem Oks.mem {P : Program} : ∀ {l : List (Con S)},Oks P l → ∀ c ∈ l,CO P c
 | [],_,c,h =>by cases h
 | d :: l,⟨h1,h2⟩,c,h =>(List.mem_cons.1 h).elim (fun e =>by subst e; exact h1) (h2.mem c)
def Tbs (P : Program) : List (Nat × Func) → Prop
 | [] =>True
 | p :: l =>P.funcs[p.1]? = some p.2 ∧ Tbs P l
theorem Tbs.mem {P : Program} : ∀ {l : List (Nat × Func)},Tbs P l → ∀ p ∈ l,P.funcs[p.1]? = some p.2
 | [],_,c,h =>by cases h
 | d :: l,⟨h1,h2⟩,c,h =>(List.mem_cons.1 h).elim (fun e =>by subst e; exact h1) (h2.mem c)
noncomputable abbrev evC (P : Program) (tb : List (Nat × Func)) (hsf : Nat → List (Nat × Hint)) (cs : List (Con S)) (hs : List (Nat × Hint)) (fn : Func) (c : Con S) (x : ao4 S c.ps) : Option (ao3 S c.rs × alk S c.ps) :=
 evF S P (inl S P tb hsf (asI S cs) tb.length) hs fn (cin S c.ps x 0).1 (cin S c.ps x 0).2.2 [] (cin S c.ps x 0).2.1 (azq S c.ps c.rs)
theorem aaC {P : Program} (hm : P.follows .mixedOrders = true) {c : Con S} {fn : Func} (hf : P.funcs[c.f]? = some fn) (cs : List (Con S)) (h : Oks P cs) (tb : List (Nat × Func)) (ht : Tbs P tb) (hsf : Nat → List (Nat × Hint)) (hs : List (Nat × Hint))
  (he : ∀ x,evC P tb hsf cs hs fn c x = c.spec x) (hb : Nat.blt c.f aeu = true := by rfl) : CO P c :=
 auD hm hf (fun _ _ hg =>au9 hm ht.mem (asH hg h.mem) tb.length) he hb
theorem ayG {P : Program} {c : Con S} (h : CO P c) {spec : ao4 S c.ps → Option (ao3 S c.rs × alk S c.ps)} (he : ∀ x out,spec x = some out → c.spec x = some out) : CO P ⟨c.f,c.ps,c.rs,spec⟩ := fun x out hx =>h x out (he x out hx)
end
section
variable {S : Shp}
variable [Tb]
end
structure EnvV where
 c : Cfg
 m : MemV
 now : Int
 draw : Int
 recs : List RecV
 evs : List Ev
structure MaV where
 f : List FrV
 over : Bool
 code : Int
 value : Int
structure EngV where
 e : EnvV
 m : List MaV
 n : Int
 stamps : List Int
 last : AccV
structure CodV where
 inn : List Int
 out : List Int
 at_ : Int
 bad : Bool
structure FgV where
 acc : Int
 rej : Int
 spa : Int
 ref : Int
 sta : Int
 fin : Int
 ste : Int
 ski : Int
 boo : Int
 age : Int
 par : Int
 lat : Int
 wor : Int
 deriving DecidableEq
structure OutV where
 ended : Bool
 code : Int
 value : Int
 deriving DecidableEq
structure LayV where
 workers : Int
 levels : Int
 classes : Int
 tasks : Int
 deque : Int
 heap : Int
 sleepers : Int
 epochs : Int
 bitmaps : Int
 queues : Int
 table : Int
 deriving DecidableEq
structure ClkV where
 now : Int
 draw : Int
 deriving DecidableEq
structure RecP where
 prog : Int
 parent : Int
 pc : Int
 left : Int
 waiting : Int
 kids : List Int
 started : Bool
 deriving DecidableEq
structure EnvP where
 c : Cfg
 l : LayV
 m : MemV
 k : ClkV
 recs : List RecP
 evs : List Ev
structure B16 where
 b0 : Int
 b1 : Int
 b2 : Int
 b3 : Int
 b4 : Int
 b5 : Int
 b6 : Int
 b7 : Int
 b8 : Int
 b9 : Int
 b10 : Int
 b11 : Int
 b12 : Int
 b13 : Int
 b14 : Int
 b15 : Int
 deriving DecidableEq
inductive MV where
 | nil
structure VwV where
 phase : Int
 level : Int
 parent : Int
 worker : Int
 other : Int
 deriving DecidableEq
structure TkV where
 view : VwV
 prog : Int
 pc : Int
 kids : List Int
structure WlV where
 stack : List Int
 walk : Int
 low : Int
 up : Int
 sleeps : Bool
 last : Ev
structure KyV where
 deadline : Int
 arrival : Int
 task : Int
structure QuV where
 keys : List KyV
 count : Int
structure SaV where
 c : Cfg
 tasks : List TkV
 works : List WlV
 queue : QuV
 offers : Int
structure UseV where
 task : Bool
 ot : Bool
 ow : Bool
 other : Bool
 level : Bool
 raw : Bool
structure CtP where
 keys : List KyV
 count : Int
structure TkP where
 ph : Int
 lv : Int
 pa : Int
 prog : List Ins
 at_ : Int
 kids : List Int
 wt : Int
structure WkP where
 stack : List Int
 walks : Bool
 walk : Int
 low : Int
 up : Int
 sleeps : Bool
 last : Ev
structure SyP where
 c : Cfg
 tasks : List TkP
 works : List WkP
 offers : Int
 known : Int
 queue : CtP
def TR : Nat → Type
 | 0 =>Int
 | 1 =>Int
 | 2 =>Ev
 | 3 =>Ins
 | 4 =>Sub
 | 5 =>EntV
 | 6 =>St
 | 7 =>RecV
 | 8 =>FrV
 | 9 =>MemV
 | 10 =>ResV
 | 11 =>MaV
 | 12 =>EnvV
 | 13 =>Cfg
 | 14 =>QV
 | 15 =>MaV
 | 16 =>EngV
 | 17 =>Int
 | 18 =>List Ins
 | 19 =>CodV
 | 20 =>Cfg
 | 21 =>FgV
 | 22 =>List Int
 | 23 =>OutV
 | 24 =>LayV
 | 25 =>ClkV
 | 26 =>RecP
 | 27 =>EnvP
 | 28 =>MV
 | 31 =>AccV
 | 60 =>VwV
 | 61 =>TkV
 | 62 =>WlV
 | 63 =>KyV
 | 64 =>SaV
 | 65 =>QuV
 | 66 =>VwV
 | 67 =>UseV
 | 68 =>KyV
 | 69 =>CtP
 | 70 =>TkP
 | 71 =>WkP
 | 72 =>SyP
 | 73 =>Bool
 | _ =>Unit
abbrev sI_ : Sh := .i .i64
abbrev sU_ : Sh := .i .u64
def shR : Nat → List Sh
 | 0 =>[sU_]
 | 1 =>[sI_]
 | 2 =>[sI_,sI_,sI_,sI_,sI_]
 | 3 =>[sI_,sI_,sI_]
 | 4 =>[sI_,sI_,sI_]
 | 5 =>[sI_,sI_]
 | 6 =>[sI_,sI_,sI_,sI_,sI_,sI_]
 | 7 =>[sI_,sI_,sI_,sI_,sI_,.ro 1,.b]
 | 8 =>[sI_,sI_,sI_,sI_,sI_,sI_,sI_,sI_,sI_,sI_,sI_,sI_,sI_,sU_,sU_,sU_,sU_,.ro 1]
 | 9 =>[.row 0,sI_,sI_,sU_,sU_,sI_]
 | 10 =>[.b,sI_,sI_]
 | 11 =>[.row 8,.b,sI_,sI_]
 | 12 =>[sI_,sI_,sI_,sI_,sI_,sI_,sI_,sI_,sI_,.rr 3,.ro 4,.row 0,sI_,sI_,sU_,sU_,sI_,sI_,sI_,.row 7,.row 2]
 | 13 =>[sI_,sI_,sI_,sI_,sI_,sI_,sI_,sI_,sI_,.rr 3,.ro 4]
 | 14 =>[sI_,sI_,sI_,sI_]
 | 15 =>[.own 11]
 | 16 =>[.own 12,.row 15,sI_,.row 1,sI_,sI_,sU_,sU_]
 | 17 =>[.i .u8]
 | 18 =>[.ro 3]
 | 19 =>[.ro 17,.ro 17,sI_,.b]
 | 20 =>[sI_,sI_,sI_,sI_,sI_,sI_,sI_,sI_,sI_,.row 18,.row 4]
 | 21 =>[sI_,sI_,sI_,sI_,sI_,sI_,sI_,sI_,sI_,sI_,sI_,sI_,sI_]
 | 22 =>[.ro 1]
 | 23 =>[.b,sI_,sI_]
 | 24 =>[sI_,sI_,sI_,sI_,sI_,sI_,sI_,sI_,sI_,sI_,sI_]
 | 25 =>[sI_,sI_]
 | 26 =>[sI_,sI_,sI_,sI_,sI_,.row 1,.b]
 | 27 =>[sI_,sI_,sI_,sI_,sI_,sI_,sI_,sI_,sI_,.rr 3,.ro 4,sI_,sI_,sI_,sI_,sI_,sI_,sI_,sI_,sI_,sI_,sI_,.own 9,.own 25,.row 26,.row 2]
 | 28 =>[.mach]
 | 31 =>[sI_,sI_,sU_,sU_]
 | 60 =>[sI_,sI_,sI_,sI_,sI_]
 | 61 =>[sI_,sI_,sI_,sI_,sI_,sI_,sI_,.ro 1]
 | 62 =>[.ro 1,sI_,sI_,sI_,.b,sI_,sI_,sI_,sI_,sI_]
 | 63 =>[sI_,sI_,sI_]
 | 64 =>[sI_,sI_,sI_,sI_,sI_,sI_,sI_,sI_,sI_,.rr 3,.ro 4,.row 61,.row 62,.ro 63,sI_,sI_]
 | 65 =>[.ro 63,sI_]
 | 66 =>[sI_,sI_,sI_,sI_,sI_]
 | 67 =>[.b,.b,.b,.b,.b,.b]
 | 68 =>[sI_,sI_,sI_]
 | 69 =>[.row 68,sI_]
 | 70 =>[sI_,sI_,sI_,.ro 3,sI_,.row 1,sI_]
 | 71 =>[.row 1,.b,sI_,sI_,sI_,.b,sI_,sI_,sI_,sI_,sI_]
 | 72 =>[sI_,sI_,sI_,sI_,sI_,sI_,sI_,sI_,sI_,.rr 3,.ro 4,.row 70,.row 71,sI_,sI_,.row 68,sI_]
 | 73 =>[.b]
 | _ =>[]
def toR : (c : Nat) → TR c → HL TR MV (shR c)
 | 0 =>fun x =>(x,())
 | 1 =>fun x =>(x,())
 | 2 =>fun x =>(x.kind,x.worker,x.task,x.other,x.level,())
 | 3 =>fun x =>(x.op,x.a,x.b,())
 | 4 =>fun x =>(x.prog,x.level,x.deadline,())
 | 5 =>fun x =>(x.kind,x.value,())
 | 6 =>fun x =>(x.at_,x.ev.kind,x.ev.worker,x.ev.task,x.ev.other,x.ev.level,())
 | 7 =>fun x =>(x.prog,x.parent,x.pc,x.left,x.waiting,x.kids,x.started,())
 | 8 =>fun x =>(x.kind,x.line,x.q.top,x.q.bottom,x.q.ring,x.q.cap,x.a,x.b,x.d,x.i,x.j,x.n,x.t,x.u,x.v,x.w,x.x,x.l,())
 | 9 =>fun x =>(x.cells,x.last.kind,x.last.cell,x.last.old,x.last.new,x.count,())
 | 10 =>fun x =>(x.done,x.code,x.value,())
 | 11 =>fun x =>(x.f,x.over,x.code,x.value,())
 | 12 =>fun x =>(x.c.workers,x.c.levels,x.c.classes,x.c.tasks,x.c.deque,x.c.heap,x.c.batch,x.c.age,x.c.patience,x.c.progs,x.c.subs,x.m.cells,x.m.last.kind,x.m.last.cell,x.m.last.old,x.m.last.new,x.m.count,x.now,x.draw,x.recs,x.evs,())
 | 13 =>fun x =>(x.workers,x.levels,x.classes,x.tasks,x.deque,x.heap,x.batch,x.age,x.patience,x.progs,x.subs,())
 | 14 =>fun x =>(x.top,x.bottom,x.ring,x.cap,())
 | 15 =>fun x =>(x,())
 | 16 =>fun x =>(x.e,x.m,x.n,x.stamps,x.last.kind,x.last.cell,x.last.old,x.last.new,())
 | 17 =>fun x =>(x,())
 | 18 =>fun x =>(x,())
 | 19 =>fun x =>(x.inn,x.out,x.at_,x.bad,())
 | 20 =>fun x =>(x.workers,x.levels,x.classes,x.tasks,x.deque,x.heap,x.batch,x.age,x.patience,x.progs,x.subs,())
 | 21 =>fun x =>(x.acc,x.rej,x.spa,x.ref,x.sta,x.fin,x.ste,x.ski,x.boo,x.age,x.par,x.lat,x.wor,())
 | 22 =>fun x =>(x,())
 | 23 =>fun x =>(x.ended,x.code,x.value,())
 | 24 =>fun x =>(x.workers,x.levels,x.classes,x.tasks,x.deque,x.heap,x.sleepers,x.epochs,x.bitmaps,x.queues,x.table,())
 | 25 =>fun x =>(x.now,x.draw,())
 | 26 =>fun x =>(x.prog,x.parent,x.pc,x.left,x.waiting,x.kids,x.started,())
 | 27 =>fun x =>(x.c.workers,x.c.levels,x.c.classes,x.c.tasks,x.c.deque,x.c.heap,x.c.batch,x.c.age,x.c.patience,x.c.progs,x.c.subs,x.l.workers,x.l.levels,x.l.classes,x.l.tasks,x.l.deque,x.l.heap,x.l.sleepers,x.l.epochs,x.l.bitmaps,x.l.queues,x.l.table,x.m,x.k,x.recs,x.evs,())
 | 28 =>fun x =>(x,())
 | 31 =>fun x =>(x.kind,x.cell,x.old,x.new,())
 | 60 =>fun x =>(x.phase,x.level,x.parent,x.worker,x.other,())
 | 61 =>fun x =>(x.view.phase,x.view.level,x.view.parent,x.view.worker,x.view.other,x.prog,x.pc,x.kids,())
 | 62 =>fun x =>(x.stack,x.walk,x.low,x.up,x.sleeps,x.last.kind,x.last.worker,x.last.task,x.last.other,x.last.level,())
 | 63 =>fun x =>(x.deadline,x.arrival,x.task,())
 | 64 =>fun x =>(x.c.workers,x.c.levels,x.c.classes,x.c.tasks,x.c.deque,x.c.heap,x.c.batch,x.c.age,x.c.patience,x.c.progs,x.c.subs,x.tasks,x.works,x.queue.keys,x.queue.count,x.offers,())
 | 65 =>fun x =>(x.keys,x.count,())
 | 66 =>fun x =>(x.phase,x.level,x.parent,x.worker,x.other,())
 | 67 =>fun x =>(x.task,x.ot,x.ow,x.other,x.level,x.raw,())
 | 68 =>fun x =>(x.deadline,x.arrival,x.task,())
 | 69 =>fun x =>(x.keys,x.count,())
 | 70 =>fun x =>(x.ph,x.lv,x.pa,x.prog,x.at_,x.kids,x.wt,())
 | 71 =>fun x =>(x.stack,x.walks,x.walk,x.low,x.up,x.sleeps,x.last.kind,x.last.worker,x.last.task,x.last.other,x.last.level,())
 | 72 =>fun x =>(x.c.workers,x.c.levels,x.c.classes,x.c.tasks,x.c.deque,x.c.heap,x.c.batch,x.c.age,x.c.patience,x.c.progs,x.c.subs,x.tasks,x.works,x.offers,x.known,x.queue.keys,x.queue.count,())
 | 73 =>fun x =>(x,())
 | 29 =>fun _ =>()
 | 30 =>fun _ =>()
 | 32 =>fun _ =>()
 | 33 =>fun _ =>()
 | 34 =>fun _ =>()
 | 35 =>fun _ =>()
 | 36 =>fun _ =>()
 | 37 =>fun _ =>()
 | 38 =>fun _ =>()
 | 39 =>fun _ =>()
 | 40 =>fun _ =>()
 | 41 =>fun _ =>()
 | 42 =>fun _ =>()
 | 43 =>fun _ =>()
 | 44 =>fun _ =>()
 | 45 =>fun _ =>()
 | 46 =>fun _ =>()
 | 47 =>fun _ =>()
 | 48 =>fun _ =>()
 | 49 =>fun _ =>()
 | 50 =>fun _ =>()
 | 51 =>fun _ =>()
 | 52 =>fun _ =>()
 | 53 =>fun _ =>()
 | 54 =>fun _ =>()
 | 55 =>fun _ =>()
 | 56 =>fun _ =>()
 | 57 =>fun _ =>()
 | 58 =>fun _ =>()
 | 59 =>fun _ =>()
 | _ + 74 =>fun _ =>()
def ofR : (c : Nat) → HL TR MV (shR c) → TR c
 | 0 =>fun p =>p.1
 | 1 =>fun p =>p.1
 | 2 =>fun ⟨a,b,c,d,e,_⟩ =>⟨a,b,c,d,e⟩
 | 3 =>fun ⟨a,b,c,_⟩ =>⟨a,b,c⟩
 | 4 =>fun ⟨a,b,c,_⟩ =>⟨a,b,c⟩
 | 5 =>fun ⟨a,b,_⟩ =>⟨a,b⟩
 | 6 =>fun ⟨z,a,b,c,d,e,_⟩ =>⟨z,⟨a,b,c,d,e⟩⟩
 | 7 =>fun ⟨a,b,c,d,e,f,g,_⟩ =>⟨a,b,c,d,e,f,g⟩
 | 8 =>fun ⟨a,b,q1,q2,q3,q4,c,d,e,f,g,h,i,j,k,l,m,n,_⟩ =>⟨a,b,⟨q1,q2,q3,q4⟩,c,d,e,f,g,h,i,j,k,l,m,n⟩
 | 9 =>fun ⟨a,b,c,d,e,f,_⟩ =>⟨a,⟨b,c,d,e⟩,f⟩
 | 10 =>fun ⟨a,b,c,_⟩ =>⟨a,b,c⟩
 | 11 =>fun ⟨a,b,c,d,_⟩ =>⟨a,b,c,d⟩
 | 12 =>fun ⟨a1,a2,a3,a4,a5,a6,a7,a8,a9,a10,a11,b1,b2,b3,b4,b5,b6,c,d,e,f,_⟩ =>⟨⟨a1,a2,a3,a4,a5,a6,a7,a8,a9,a10,a11⟩,⟨b1,⟨b2,b3,b4,b5⟩,b6⟩,c,d,e,f⟩
 | 13 =>fun ⟨a1,a2,a3,a4,a5,a6,a7,a8,a9,a10,a11,_⟩ =>⟨a1,a2,a3,a4,a5,a6,a7,a8,a9,a10,a11⟩
 | 14 =>fun ⟨a,b,c,d,_⟩ =>⟨a,b,c,d⟩
 | 15 =>fun p =>p.1
 | 16 =>fun ⟨a,b,c,d,l1,l2,l3,l4,_⟩ =>⟨a,b,c,d,⟨l1,l2,l3,l4⟩⟩
 | 17 =>fun p =>p.1
 | 18 =>fun p =>p.1
 | 19 =>fun ⟨a,b,c,d,_⟩ =>⟨a,b,c,d⟩
 | 20 =>fun ⟨a1,a2,a3,a4,a5,a6,a7,a8,a9,a10,a11,_⟩ =>⟨a1,a2,a3,a4,a5,a6,a7,a8,a9,a10,a11⟩
 | 21 =>fun ⟨a0,a1,a2,a3,a4,a5,a6,a7,a8,a9,a10,a11,a12,_⟩ =>⟨a0,a1,a2,a3,a4,a5,a6,a7,a8,a9,a10,a11,a12⟩
 | 22 =>fun p =>p.1
 | 23 =>fun ⟨a0,a1,a2,_⟩ =>⟨a0,a1,a2⟩
 | 24 =>fun ⟨a0,a1,a2,a3,a4,a5,a6,a7,a8,a9,a10,_⟩ =>⟨a0,a1,a2,a3,a4,a5,a6,a7,a8,a9,a10⟩
 | 25 =>fun ⟨a0,a1,_⟩ =>⟨a0,a1⟩
 | 26 =>fun ⟨a0,a1,a2,a3,a4,a5,a6,_⟩ =>⟨a0,a1,a2,a3,a4,a5,a6⟩
 | 27 =>fun ⟨a0,a1,a2,a3,a4,a5,a6,a7,a8,a9,a10,a11,a12,a13,a14,a15,a16,a17,a18,a19,a20,a21,a22,a23,a24,a25,_⟩ =>⟨⟨a0,a1,a2,a3,a4,a5,a6,a7,a8,a9,a10⟩,⟨a11,a12,a13,a14,a15,a16,a17,a18,a19,a20,a21⟩,a22,a23,a24,a25⟩
 | 28 =>fun p =>p.1
 | 31 =>fun ⟨a0,a1,a2,a3,_⟩ =>⟨a0,a1,a2,a3⟩
 | 60 =>fun ⟨a0,a1,a2,a3,a4,_⟩ =>⟨a0,a1,a2,a3,a4⟩
 | 61 =>fun ⟨a0,a1,a2,a3,a4,a5,a6,a7,_⟩ =>⟨⟨a0,a1,a2,a3,a4⟩,a5,a6,a7⟩
 | 62 =>fun ⟨a0,a1,a2,a3,a4,a5,a6,a7,a8,a9,_⟩ =>⟨a0,a1,a2,a3,a4,⟨a5,a6,a7,a8,a9⟩⟩
 | 63 =>fun ⟨a0,a1,a2,_⟩ =>⟨a0,a1,a2⟩
 | 64 =>fun ⟨a0,a1,a2,a3,a4,a5,a6,a7,a8,a9,a10,a11,a12,a13,a14,a15,_⟩ =>⟨⟨a0,a1,a2,a3,a4,a5,a6,a7,a8,a9,a10⟩,a11,a12,⟨a13,a14⟩,a15⟩
 | 65 =>fun ⟨a0,a1,_⟩ =>⟨a0,a1⟩
 | 66 =>fun ⟨a0,a1,a2,a3,a4,_⟩ =>⟨a0,a1,a2,a3,a4⟩
 | 67 =>fun ⟨a0,a1,a2,a3,a4,a5,_⟩ =>⟨a0,a1,a2,a3,a4,a5⟩
 | 68 =>fun ⟨a0,a1,a2,_⟩ =>⟨a0,a1,a2⟩
 | 69 =>fun ⟨a0,a1,_⟩ =>⟨a0,a1⟩
 | 70 =>fun ⟨a0,a1,a2,a3,a4,a5,a6,_⟩ =>⟨a0,a1,a2,a3,a4,a5,a6⟩
 | 71 =>fun ⟨a0,a1,a2,a3,a4,a5,a6,a7,a8,a9,a10,_⟩ =>⟨a0,a1,a2,a3,a4,a5,⟨a6,a7,a8,a9,a10⟩⟩
 | 72 =>fun ⟨a0,a1,a2,a3,a4,a5,a6,a7,a8,a9,a10,a11,a12,a13,a14,a15,a16,_⟩ =>⟨⟨a0,a1,a2,a3,a4,a5,a6,a7,a8,a9,a10⟩,a11,a12,a13,a14,⟨a15,a16⟩⟩
 | 73 =>fun p =>p.1
 | 29 =>fun _ =>()
 | 30 =>fun _ =>()
 | 32 =>fun _ =>()
 | 33 =>fun _ =>()
 | 34 =>fun _ =>()
 | 35 =>fun _ =>()
 | 36 =>fun _ =>()
 | 37 =>fun _ =>()
 | 38 =>fun _ =>()
 | 39 =>fun _ =>()
 | 40 =>fun _ =>()
 | 41 =>fun _ =>()
 | 42 =>fun _ =>()
 | 43 =>fun _ =>()
 | 44 =>fun _ =>()
 | 45 =>fun _ =>()
 | 46 =>fun _ =>()
 | 47 =>fun _ =>()
 | 48 =>fun _ =>()
 | 49 =>fun _ =>()
 | 50 =>fun _ =>()
 | 51 =>fun _ =>()
 | 52 =>fun _ =>()
 | 53 =>fun _ =>()
 | 54 =>fun _ =>()
 | 55 =>fun _ =>()
 | 56 =>fun _ =>()
 | 57 =>fun _ =>()
 | 58 =>fun _ =>()
 | 59 =>fun _ =>()
 | _ + 74 =>fun _ =>()
def dfR : (c : Nat) → TR c
 | 0 =>(default : Int)
 | 1 =>(default : Int)
 | 2 =>(default : Ev)
 | 3 =>(default : Ins)
 | 4 =>(default : Sub)
 | 5 =>(default : EntV)
 | 6 =>⟨0,default⟩
 | 7 =>(default : RecV)
 | 8 =>(default : FrV)
 | 9 =>(default : MemV)
 | 10 =>(default : ResV)
 | 11 =>⟨[],false,0,0⟩
 | 12 =>⟨⟨0,0,0,0,0,0,0,0,0,[],[]⟩,default,0,0,[],[]⟩
 | 13 =>⟨0,0,0,0,0,0,0,0,0,[],[]⟩
 | 14 =>(default : QV)
 | 15 =>⟨[],false,0,0⟩
 | 16 =>⟨⟨⟨0,0,0,0,0,0,0,0,0,[],[]⟩,default,0,0,[],[]⟩,[],0,[],default⟩
 | 17 =>(default : Int)
 | 18 =>[]
 | 19 =>⟨[],[],0,false⟩
 | 20 =>⟨0,0,0,0,0,0,0,0,0,[],[]⟩
 | 21 =>⟨0,0,0,0,0,0,0,0,0,0,0,0,0⟩
 | 22 =>[]
 | 23 =>⟨false,0,0⟩
 | 24 =>⟨0,0,0,0,0,0,0,0,0,0,0⟩
 | 25 =>⟨0,0⟩
 | 26 =>⟨0,0,0,0,0,[],false⟩
 | 27 =>⟨⟨0,0,0,0,0,0,0,0,0,[],[]⟩,⟨0,0,0,0,0,0,0,0,0,0,0⟩,default,⟨0,0⟩,[],[]⟩
 | 28 =>MV.nil
 | 31 =>⟨0,0,0,0⟩
 | 60 =>⟨0,0,0,0,0⟩
 | 61 =>⟨⟨0,0,0,0,0⟩,0,0,[]⟩
 | 62 =>⟨[],0,0,0,false,⟨0,0,0,0,0⟩⟩
 | 63 =>⟨0,0,0⟩
 | 64 =>⟨⟨0,0,0,0,0,0,0,0,0,[],[]⟩,[],[],⟨[],0⟩,0⟩
 | 65 =>⟨[],0⟩
 | 66 =>⟨0,0,0,0,0⟩
 | 67 =>⟨false,false,false,false,false,false⟩
 | 68 =>⟨0,0,0⟩
 | 69 =>⟨[],0⟩
 | 70 =>⟨0,0,0,[],0,[],0⟩
 | 71 =>⟨[],false,0,0,0,false,⟨0,0,0,0,0⟩⟩
 | 72 =>⟨⟨0,0,0,0,0,0,0,0,0,[],[]⟩,[],[],0,0,⟨[],0⟩⟩
 | 73 =>false
 | 29 =>()
 | 30 =>()
 | 32 =>()
 | 33 =>()
 | 34 =>()
 | 35 =>()
 | 36 =>()
 | 37 =>()
 | 38 =>()
 | 39 =>()
 | 40 =>()
 | 41 =>()
 | 42 =>()
 | 43 =>()
 | 44 =>()
 | 45 =>()
 | 46 =>()
 | 47 =>()
 | 48 =>()
 | 49 =>()
 | 50 =>()
 | 51 =>()
 | 52 =>()
 | 53 =>()
 | 54 =>()
 | 55 =>()
 | 56 =>()
 | 57 =>()
 | 58 =>()
 | 59 =>()
 | _ + 74 =>()
abbrev afS (xs : List Int) (i : Int) : Int := atL (dfR 0 : TR 0) xs i
abbrev aae (xs : List Int) (i : Int) : Int := atL (dfR 1 : TR 1) xs i
abbrev aaL (xs : List Ev) (i : Int) : Ev := atL (dfR 2 : TR 2) xs i
abbrev acv (xs : List Ins) (i : Int) : Ins := atL (dfR 3 : TR 3) xs i
abbrev ac1 (xs : List Sub) (i : Int) : Sub := atL (dfR 4 : TR 4) xs i
abbrev ay3 (xs : List EntV) (i : Int) : EntV := atL (dfR 5 : TR 5) xs i
abbrev aap (xs : List RecV) (i : Int) : RecV := atL (dfR 7 : TR 7) xs i
abbrev ap6 (xs : List FrV) (i : Int) : FrV := atL (dfR 8 : TR 8) xs i
abbrev aeU (xs : List Int) (i : Int) : Int := atL (dfR 17 : TR 17) xs i
abbrev acG (xs : List Bool) (i : Int) : Bool := atL (dfR 73 : TR 73) xs i
abbrev aja (xs : List MaV) (i : Int) : MaV := atL (dfR 15 : TR 15) xs i
theorem avp : ∀ c p,toR c (ofR c p) = p
 | 0,_ =>rfl
 | 1,_ =>rfl
 | 2,_ =>rfl
 | 3,_ =>rfl
 | 4,_ =>rfl
 | 5,_ =>rfl
 | 6,_ =>rfl
 | 7,_ =>rfl
 | 8,_ =>rfl
 | 9,_ =>rfl
 | 10,_ =>rfl
 | 11,_ =>rfl
 | 12,_ =>rfl
 | 13,_ =>rfl
 | 14,_ =>rfl
 | 15,_ =>rfl
 | 16,_ =>rfl
 | 17,_ =>rfl
 | 18,_ =>rfl
 | 19,_ =>rfl
 | 20,_ =>rfl
 | 21,_ =>rfl
 | 22,_ =>rfl
 | 23,_ =>rfl
 | 24,_ =>rfl
 | 25,_ =>rfl
 | 26,_ =>rfl
 | 27,_ =>rfl
 | 28,_ =>rfl
 | 31,_ =>rfl
 | 60,_ =>rfl
 | 61,_ =>rfl
 | 62,_ =>rfl
 | 63,_ =>rfl
 | 64,_ =>rfl
 | 65,_ =>rfl
 | 66,_ =>rfl
 | 67,_ =>rfl
 | 68,_ =>rfl
 | 69,_ =>rfl
 | 70,_ =>rfl
 | 71,_ =>rfl
 | 72,_ =>rfl
 | 73,_ =>rfl
 | 29,_ =>rfl
 | 30,_ =>rfl
 | 32,_ =>rfl
 | 33,_ =>rfl
 | 34,_ =>rfl
 | 35,_ =>rfl
 | 36,_ =>rfl
 | 37,_ =>rfl
 | 38,_ =>rfl
 | 39,_ =>rfl
 | 40,_ =>rfl
 | 41,_ =>rfl
 | 42,_ =>rfl
 | 43,_ =>rfl
 | 44,_ =>rfl
 | 45,_ =>rfl
 | 46,_ =>rfl
 | 47,_ =>rfl
 | 48,_ =>rfl
 | 49,_ =>rfl
 | 50,_ =>rfl
 | 51,_ =>rfl
 | 52,_ =>rfl
 | 53,_ =>rfl
 | 54,_ =>rfl
 | 55,_ =>rfl
 | 56,_ =>rfl
 | 57,_ =>rfl
 | 58,_ =>rfl
 | 59,_ =>rfl
 | _ + 74,_ =>rfl
def lsR : (c c' : Nat) → Option (PLift (TR c' = List (TR c)))
 | 3,18 =>some ⟨rfl⟩
 | 1,22 =>some ⟨rfl⟩
 | _,_ =>none
theorem ayg : ∀ c c' h,lsR c c' = some h → ∀ x,vwP TR MV (shR c') (toR c' x) = [.ro c (h.down ▸ x)] := by
 intro c c' h hl x
 unfold lsR at hl
 split at hl
 ·rfl
 ·rfl
 ·cases hl
def az3 : MV → Option (Σ c : Nat,TR c)
 | .nil =>none
def mkR : (c : Nat) → TR c → Option MV
 | _,_ =>none
theorem aye : ∀ c x m,mkR c x = some m → az3 m = some ⟨c,x⟩ := by
 intro c x m h
 unfold mkR at h
 split at h <;> first | (cases h; rfl) | cases h
def azc (td : List (Nat × TypeId)) (c : Nat) : TypeId := (get td c).getD 0
def kdR (td : List (Nat × TypeId)) (t : TypeId) : List (Nat × TypeId) → Option Nat
 | [] =>none
 | p :: l =>match Nat.beq p.2 t && Nat.beq (azc td p.1) t with
 | true =>some p.1
 | false =>kdR td t l
theorem au8 {td : List (Nat × TypeId)} {t : TypeId} : ∀ {l : List (Nat × TypeId)} {c : Nat},kdR td t l = some c → azc td c = t
 | [],_,h =>by cases h
 | p :: l,c,h =>by
  unfold kdR at h
  split at h
  ·rename_i hb
   cases h
   simp only [Bool.and_eq_true] at hb
   exact Nat.eq_of_beq_eq_true hb.2
  ·exact au8 h
def SR (tk : TypeId → Option Nat) (td : List (Nat × TypeId)) : Shp := { T := TR,M := MV,sh := shR,to_ := toR,of := ofR,ok := avp,df := dfR,tid := azc td,tk := tk,spl := az3,nilM := .nil,nilM_ok := rfl,mkM := mkR,mkM_ok := aye,kd := fun t =>kdR td t td,kd_ok := fun _ _ h =>au8 h,ls := lsR,ls_ok := (fun c c' h e x =>Or.inl (ayg c c' h e x)) }
end
section
open Go Go.RowKit
set_option maxRecDepth 100000
def tkR : TypeId → Option Nat := fun t =>get [(3,1),(4,73),(5,17),(23,22),(28,13),(40,2),(56,0),(58,31),(60,9),(63,12),(67,16),(73,66),(74,60),(83,19),(85,18),(87,3),(89,4),(91,15),(94,14),(96,8),(99,5),(109,65),(111,64),(113,61),(119,69),(121,72),(123,70),(128,71),(138,7),(142,11),(147,62),(151,67),(166,10),(174,68),(199,63)] t
def tdR : List (Nat × TypeId) := []
abbrev SR1 := SR tkR tdR
theorem aaB : Tryz.prog.follows .mixedOrders = true := by kernel_rfl
end
section
open Go Go.RowKit
section
variable {B : Nat} {w w' : World} {L : List aag} {A : Option Addr} {n cap sz : Nat} {xs : List Value} {el : TypeId}
end
section
variable {α : Type} {enc : α → List Value} {sz B : Nat} {w : World} {A : Option Addr} {c : Nat} {xs : List α} {L : List aag}
theorem axw (hz : 0 < sz) (henc : ∀ x,(enc x).length = sz) (hS : Sl enc sz w B A xs) (hc : xs.length ≤ c) (s : Sat B w L) : Sat B w (roS enc sz A c xs :: L) := by
 obtain ⟨h,H,hs⟩ := s
 refine ⟨ab1 (fun b o =>if b < B then (w.cell? ⟨b,o,none⟩).map .look else none) h,?_,_,h,?_,rfl,?_,hs⟩
 ·intro b o x hx
  unfold ab1 at hx
  by_cases hb : b < B
  ·simp only [if_pos hb] at hx
   cases hv : w.cell? ⟨b,o,none⟩ with
   | none =>rw [hv] at hx; exact H b o x hx
   | some v =>
    rw [hv] at hx
    obtain rfl := Option.some.inj hx
    exact ⟨.inr trivial,hv⟩
  ·simp only [if_neg hb] at hx
   exact H b o x hx
 ·intro b o
  by_cases hb : b < B
  ·simp only [if_pos hb]
   cases hv : w.cell? ⟨b,o,none⟩ with
   | none =>exact .inl rfl
   | some v =>
    cases hh : h b o with
    | none =>exact .inr (.inl rfl)
    | some y =>
     obtain ⟨h1,h2⟩ := H b o y hh
     cases y with
     | cell v' =>exact absurd (h1.resolve_right id) (by omega)
     | obj v' =>exact absurd (h1.resolve_right id) (by omega)
     | look v' =>
      have h3 : w.cell? ⟨b,o,none⟩ = some v' := h2
      rw [hv] at h3
      obtain rfl := Option.some.inj h3
      exact .inr (.inr ⟨v,rfl,rfl⟩)
  ·simp only [if_neg hb]; exact .inl rfl
 ·refine ⟨fun b o =>if b < B then (w.cell? ⟨b,o,none⟩).map .look else none,fun b o x hx =>⟨?_,hx⟩,fun u hu =>⟨⟨hS.1,fun hne =>?_⟩,hc⟩⟩
  ·by_cases hb : b < B
   ·simp only [if_pos hb] at hx
    cases hv : w.cell? ⟨b,o,none⟩ with
    | none =>rw [hv] at hx; cases hx
    | some v =>rw [hv] at hx; exact ⟨v,(Option.some.inj hx).symm⟩
   ·simp only [if_neg hb] at hx; cases hx
  ·obtain ⟨b,o,hA,hb,hcell⟩ := hS.2 hne
   have key : ∀ (i : Nat) x,xs[i]? = some x → ∀ (j : Nat) v,(enc x)[j]? = some v → u.cell? ⟨b,o + i * sz + j,none⟩ = some v := fun i x hx j v hv =>by
    have h1 := hcell i x hx j v hv
    exact hu b (o + i * sz + j) (.look v) (by simp only [if_pos hb,h1]; rfl)
   refine ⟨b,o,hA,?_,key⟩
   cases xs with
   | nil =>exact absurd rfl hne
   | cons x xs =>
    cases hx : enc x with
    | nil =>have := henc x; rw [hx] at this; simp at this; omega
    | cons y ys =>exact ajS (key 0 x rfl 0 y (by rw [hx]; rfl))
end
section
variable {S : Shp} {B : Nat} {w : World} {L : List aag} {v : Value}
theorem aie {f : Fl S.T S.M} {p : aag} (h0 : ∀ h,pcW S.kt (fun _ _ _ _ =>False) (fun _ _ _ _ _ =>False) f v h → p h) (h1 : ∀ n h,pcW S.kt (obW S.kt (pcN S.kt n)) (rwW S.kt (pcN S.kt n)) f v h → p h) : ∀ h,pcS S.kt f v h → p h := fun h ⟨n,hn⟩ =>by
 cases n with
 | zero =>exact h0 h hn
 | succ n =>exact h1 n h hn
theorem aze {k : IntKind} {x : Int} (s : Sat B w (pcS S.kt (.i k x) v :: L)) : v = .int k x ∧ Sat B w L := by
 have s1 : Sat B w (ah4 (v = .int k x) :: L) := abg (aie (f := .i k x) (fun _ h =>h) fun _ _ h =>h) s
 obtain ⟨h,H,k1,k2,a,e,h1,h2⟩ := s1
 exact ⟨h1,s.drop⟩
theorem axv {c : Nat} {xs : List (S.T c)} (s : Sat B w (pcS S.kt (.ro c xs) v :: L)) : ∃ A cap,v = .slice A xs.length cap ∧ Sl (ac0 S.kt c) (S.kt.sz c) w w.heap.size A xs := by
 have s1 : Sat B w ((fun h =>∃ A cap,v = .slice A xs.length cap ∧ roS (ac0 S.kt c) (S.kt.sz c) A cap xs h) :: L) := abg (aie (f := .ro c xs) (fun _ h =>h) fun _ _ h =>h) s
 obtain ⟨h,H,k1,k2,a,e,⟨A,cap,e1,h1⟩,h2⟩ := s1
 have s2 : Sat B w (roS (ac0 S.kt c) (S.kt.sz c) A cap xs :: L) := ⟨h,H,k1,k2,a,e,h1,h2⟩
 exact ⟨A,cap,e1,(amX s2 List.mem_cons_self).1⟩
theorem axu {c : Nat} {xss : List (List (S.T c))} (s : Sat B w (pcS S.kt (.rr c xss) v :: L)) : ∃ A cap,v = .slice A xss.length cap ∧ xss.length ≤ 9223372036854775807 ∧ ∃ ps : List (Option Addr × Nat),
  ∀ (i : Nat) xs,xss[i]? = some xs → ∃ a,ps[i]? = some a ∧ (Sl (ac0 S.kt c) (S.kt.sz c) w w.heap.size a.1 xs ∧ xs.length ≤ a.2) ∧ ∃ b o,A = some ⟨b,o,none⟩ ∧ b < w.heap.size ∧ w.cell? ⟨b,o + i,none⟩ = some (.slice a.1 xs.length a.2) := by
 have s1 : Sat B w ((fun h =>∃ A cap,v = .slice A xss.length cap ∧ rrS (ac0 S.kt c) (S.kt.sz c) A cap xss h) :: L) := abg (aie (f := .rr c xss) (fun _ h =>h) fun _ _ h =>h) s
 obtain ⟨h,H,k1,k2,a,e,⟨A,cap,e1,ps,h1⟩,h2⟩ := s1
 have s2 : Sat B w (adI _ :: L) := ⟨h,H,k1,k2,a,e,h1,h2⟩
 have h3 := aig s2 List.mem_cons_self
 exact ⟨A,cap,e1,h3.1.1,ps,h3.2⟩
theorem aqA {f : Fl S.T S.M} {fs : List (Fl S.T S.M)} {us : List Value} (s : Sat B w (fsS (pcS S.kt) (f :: fs) us ++ L)) : ∃ u us',us = u :: us' ∧ Sat B w (pcS S.kt f u :: (fsS (pcS S.kt) fs us' ++ L)) := by
 cases us with
 | nil =>exact aaR s
 | cons u us' =>exact ⟨u,us',rfl,s⟩
theorem avJ {us : List Value} (s : Sat B w (fsS (pcS S.kt) [] us ++ L)) : us = [] ∧ Sat B w L := by
 cases us with
 | nil =>exact ⟨rfl,s⟩
 | cons u us' =>exact aaR s
theorem ags {k : IntKind} {x : Int} {fs : List (Fl S.T S.M)} {us : List Value} (s : Sat B w (fsS (pcS S.kt) (.i k x :: fs) us ++ L)) : ∃ us',us = .int k x :: us' ∧ Sat B w (fsS (pcS S.kt) fs us' ++ L) := by
 obtain ⟨u,us',e,s1⟩ := aqA s
 obtain ⟨e2,s2⟩ := aze s1
 subst e2
 exact ⟨us',e,s2⟩
def arf : List (Fl S.T S.M) → Bool
 | [] =>true
 | .i .. :: l =>arf l
 | .b .. :: l =>arf l
 | _ =>false
theorem ahf : ∀ (fs : List (Fl S.T S.M)) (h : Hp),arf fs = true → abk (fsS (pcS S.kt) fs (fs.map flV)) h
 | [],_,_ =>trivial
 | .i k x :: l,h,hp =>⟨fun _ _ =>none,h,fun _ _ =>.inl rfl,by funext a b; rfl,⟨0,rfl⟩,ahf l h hp⟩
 | .b x :: l,h,hp =>⟨fun _ _ =>none,h,fun _ _ =>.inl rfl,by funext a b; rfl,⟨0,rfl⟩,ahf l h hp⟩
theorem axx {k : IntKind} {x : Int} (s : Sat B w L) : Sat B w (pcS S.kt (.i k x) (.int k x) :: L) := abl s fun _ =>⟨0,rfl⟩
end
section
variable {S : Shp} {B : Nat} {w : World} {L : List aag}
theorem alC {c : Nat} (hp : ∀ x,arf (S.kt.vw c x) = true) : ∀ (xs : List (S.T c)) (h : Hp),abk (abx S.kt (pcS S.kt) c xs (xs.map (ac0 S.kt c))) h
 | [],_ =>trivial
 | x :: xs,h =>aao.2 ⟨fun _ _ =>none,h,fun _ _ =>.inl rfl,by funext a b; rfl,ahf _ _ (hp x),alC hp xs h⟩
theorem aki {c cap : Nat} {A : Option Addr} {xs : List (S.T c)} (hp : ∀ x,arf (S.kt.vw c x) = true) (s : Sat B w (acC A xs.length cap (S.kt.sz c) (xs.flatMap (ac0 S.kt c)) :: L)) : Sat B w (pcS S.kt (.row c xs) (.slice A xs.length cap) :: L) := by
 refine abg (fun k hk =>aaF.2 (show pcW S.kt (obS S.kt) (rwS S.kt) (.row c xs) _ k from ⟨A,cap,rfl,abT.2 ⟨xs.map (ac0 S.kt c),?_⟩⟩)) s
 have e : (xs.map (ac0 S.kt c)).flatten = xs.flatMap (ac0 S.kt c) := by rw [List.flatMap_def]
 rw [e]
 exact ⟨k,fun _ _ =>none,fun _ _ =>.inr (.inl rfl),by funext a b; unfold ab1; cases k a b <;> rfl,hk,alC hp xs _⟩
end
section
variable {B : Nat} {w : World} {L : List aag} {v : Value}
theorem avK {c : Cfg} (s : Sat B w (as8 SR1 13 c v :: L)) : ∃ p,v = amK c p ∧ ag8 w w.heap.size c p ∧ Sat B w L := by
 obtain ⟨us,e,s0⟩ := amW s
 have s0' : Sat B w (fsS (pcS SR1.kt) [.i .i64 c.workers,.i .i64 c.levels,.i .i64 c.classes,.i .i64 c.tasks,.i .i64 c.deque,.i .i64 c.heap,.i .i64 c.batch,.i .i64 c.age,.i .i64 c.patience,.rr 3 c.progs,.ro 4 c.subs] us ++ L) := s0
 obtain ⟨us1,rfl,s1⟩ := ags s0'
 obtain ⟨us2,rfl,s2⟩ := ags s1
 obtain ⟨us3,rfl,s3⟩ := ags s2
 obtain ⟨us4,rfl,s4⟩ := ags s3
 obtain ⟨us5,rfl,s5⟩ := ags s4
 obtain ⟨us6,rfl,s6⟩ := ags s5
 obtain ⟨us7,rfl,s7⟩ := ags s6
 obtain ⟨us8,rfl,s8⟩ := ags s7
 obtain ⟨us9,rfl,s9⟩ := ags s8
 obtain ⟨u10,us10,rfl,s10⟩ := aqA s9
 obtain ⟨A,ca,rfl,hl,ps,hA⟩ := axu s10
 obtain ⟨u11,us11,rfl,s11⟩ := aqA s10.drop
 obtain ⟨A2,ca2,rfl,hA2⟩ := axv s11
 obtain ⟨rfl,s12⟩ := avJ s11.drop
 refine ⟨⟨A,ca,A2,ca2⟩,e,⟨⟨hl,fun hne =>?_⟩,hA2⟩,s12⟩
 cases hp : c.progs with
 | nil =>exact absurd hp hne
 | cons x xs =>
  obtain ⟨a0,_,_,b,o,e1,hb,_⟩ := hA 0 x (by rw [hp]; rfl)
  refine ⟨b,o,e1,hb,fun i p hi =>?_⟩
  obtain ⟨a1,g1,g2,b',o',e2,hb',hc'⟩ := hA i p (by rw [hp]; exact hi)
  rw [e1] at e2
  cases e2
  exact ⟨a1.1,a1.2,hc',g2.1⟩
end
end
section
open Go.RowKit
set_option maxHeartbeats 400000 in
theorem adg (a b c : Int) (w : World) :
  Calls Tryz.prog 67 #[.int .i64 a,.int .i64 b,.int .i64 c] w fun e w' =>e = .returned (.bool (inB a b c)) ∧ w = w' := by
 unfold inB
 by_cases h : b ≤ a
 all_goals
  go_enter Tryz.func67,Tryz.ntmps67
  go_wp2
  go_ret
  all_goals (simp [*] <;> omega)
set_option maxHeartbeats 1000000 in
theorem ad4 (c : Cfg) (l : CfgAt) (w : World) :
  Calls Tryz.prog 38 #[amK c l] w fun e w' =>e = .returned (.bool (agP c)) ∧ Below w.heap.size w w' := by
 unfold amK agP
 by_cases hl : c.levels < 8
 all_goals
  go_enter Tryz.func38,Tryz.ntmps38
  go_wp2_with (first | (go_at_call 67; refine (adg _ _ _ _).mono ?_; rintro e w' ⟨rfl,rfl⟩))
  all_goals go_ret
  all_goals simp [*]
  all_goals exact (Below.refl _ _).alloc (Nat.le_refl _) _
set_option maxHeartbeats 1000000 in
theorem ah0 (c : Cfg) (l : CfgAt) (x : Ins) (w : World) (h1 : 1 ≤ c.levels) (h2 : c.levels ≤ 64) (hp : c.progs.length ≤ 9223372036854775807) :
  Calls Tryz.prog 68 #[amK c l,.agg #[.int .i64 x.op,.int .i64 x.a,.int .i64 x.b]] w fun e w' =>e = .returned (.bool (agV c.levels c.progs.length x)) ∧ Below w.heap.size w w' := by
 unfold amK
 go_enter Tryz.func68,Tryz.ntmps68
 go_wp2_with (first | (go_at_call 67; refine (adg _ _ _ _).mono ?_; rintro e w' ⟨rfl,rfl⟩))
 all_goals go_ret
 all_goals refine ⟨att (by unfold agV; simp_all),?_⟩
 all_goals exact ((Below.refl _ _).alloc (Nat.le_refl _) _).alloc (by simp) _
theorem agM {lv np : Int} {ps : List (List Ins)} {k : Nat} (hk : k < ps.length) (h : abh lv np (ps.drop k) = abh lv np ps) (hl : 32 < ps[k].length) : abh lv np ps = 2 := by
 rw [← h,List.drop_eq_getElem_cons hk]; simp [abh,hl]
theorem ahn {lv np : Int} {ps : List (List Ins)} {k j : Nat} (hk : k < ps.length) (h : abh lv np (ps.drop k) = abh lv np ps) (hl : ps[k].length ≤ 32) (hj : j < ps[k].length) (hb : agV lv np ps[k][j] = false) : abh lv np ps = 1 := by
 rw [← h,List.drop_eq_getElem_cons hk]
 have : ps[k].all (agV lv np) = false := by
  rw [List.all_eq_false]; exact ⟨_,List.getElem_mem hj,by simp [hb]⟩
 simp [abh,Nat.not_lt.2 hl,this]
theorem agL {lv np : Int} {ps : List (List Ins)} {k : Nat} (hk : k < ps.length) (h : abh lv np (ps.drop k) = abh lv np ps) (hl : ps[k].length ≤ 32) (ha : (ps[k].take ps[k].length).all (agV lv np) = true) : abh lv np (ps.drop (k + 1)) = abh lv np ps := by
 rw [← h,List.drop_eq_getElem_cons hk]
 rw [List.take_length] at ha
 simp [abh,Nat.not_lt.2 hl,ha]
theorem alg {α : Type} {f : α → Bool} {l : List α} {j : Nat} (hj : j < l.length) (h : (l.take j).all f = true) (hf : f l[j] = true) : (l.take (j + 1)).all f = true := by
 rw [List.take_succ_eq_append_getElem hj,List.all_append,h]; simp [hf]
def aAH (lv np : Int) (ps : List (List Ins)) (k : Nat) : Prop := abh lv np (ps.drop k) = abh lv np ps
def aAc (lv np : Int) (p : List Ins) (k : Nat) : Prop := (p.take k).all (agV lv np) = true
@[reducible] def asB (c : Cfg) (l : CfgAt) : Obj := .cells #[.int .i64 c.workers,.int .i64 c.levels,.int .i64 c.classes,.int .i64 c.tasks,.int .i64 c.deque,.int .i64 c.heap,.int .i64 c.batch,.int .i64 c.age,.int .i64 c.patience,.slice l.pa c.progs.length l.pc,.slice l.sa c.subs.length l.sc] 28
set_option maxHeartbeats 2000000 in
theorem afj (c : Cfg) (l : CfgAt) (w : World) (h1 : 1 ≤ c.levels) (h2 : c.levels ≤ 64) (hc : ag8 w w.heap.size c l) :
  Calls Tryz.prog 39 #[amK c l] w fun e w' =>e = .returned (.int .i64 (acm c)) ∧ Below w.heap.size w w' := by
 have hlen := hc.1.1
 by_cases hp : inB (c.progs.length : Int) 1 32 = true
 ·have hfin : acm c = abh c.levels c.progs.length c.progs := by simp [acm,hp]
  have Hfin := Lib.hid hfin
  clear hfin
  unfold amK
  go_enter Tryz.func39,Tryz.ntmps39
  go_wp2_with (first | (go_at_call 67; refine (adg _ _ _ _).mono ?_; rintro e w' ⟨rfl,rfl⟩))
  go_loopw [15] (fun i wr =>∃ k : Nat,k ≤ c.progs.length ∧ i = .int .i64 k ∧ aAH c.levels c.progs.length c.progs k ∧ Below (w.heap.size + 1) (w.alloc (asB c l)) wr) (fun i _ =>c.progs.length - (intOf i).toNat)
  case atStart =>exact ⟨0,Nat.zero_le _,rfl,rfl,Below.refl _ _⟩
  case round =>
   obtain ⟨k,hk,rfl,hi,hb⟩ := hrel
   have hB : w.heap.size < wr.heap.size := by have := hb.size; simp at this; omega
   have hbw : Below w.heap.size w wr := ((Below.refl _ _).alloc (Nat.le_refl _) _).trans (hb.mono (by omega))
   by_cases hlt : k < c.progs.length
   ·obtain ⟨b,o,hpa,hbb,Ai,ci,hcell,hsl⟩ := hc.1.at_ hlt
    have hln := hsl.len
    obtain ⟨hcs,hfz⟩ := amA hb
    by_cases hlong : 32 < c.progs[k].length
    ·have hres := Lib.hid (agM hlt hi hlong)
     obtain ⟨pa,pc,sa,sc⟩ := l
     obtain rfl : pa = some ⟨b,o,none⟩ := hpa
     go_wp2
     go_ret
     exact ⟨adi (by rw [Hfin.out,hres.out]),hbw⟩
    ·obtain ⟨pa,pc,sa,sc⟩ := l
     obtain rfl : pa = some ⟨b,o,none⟩ := hpa
     go_wp2
     obtain ⟨wo,rfl⟩ : ∃ wo : World,wo = wr := ⟨_,rfl⟩
     clear hcs hfz
     go_loopw [24] (fun i ws =>∃ j : Nat,j ≤ c.progs[k].length ∧ i = .int .i64 j ∧ aAc c.levels c.progs.length c.progs[k] j ∧ Below (w.heap.size + 1) (w.alloc (asB c ⟨some ⟨b,o,none⟩,pc,sa,sc⟩)) ws) (fun i _ =>c.progs[k].length - (intOf i).toNat)
     case atStart =>exact ⟨0,Nat.zero_le _,rfl,by simp [aAc],hb⟩
     case round =>
      obtain ⟨j,hj,rfl,hq,hb2⟩ := hrel
      have hB2 : w.heap.size < wr.heap.size := by have := hb2.size; simp at this; omega
      have hbw2 : Below w.heap.size w wr := ((Below.refl _ _).alloc (Nat.le_refl _) _).trans (hb2.mono (by omega))
      by_cases hjt : j < c.progs[k].length
      ·obtain ⟨b2,o2,hpa2,hbb2,hcc⟩ := hsl.at_ hjt
       obtain rfl : Ai = some ⟨b2,o2,none⟩ := hpa2
       obtain ⟨hcs,hfz⟩ := amA hb2
       have c0 : w.cell? ⟨b2,o2 + j * 3,none⟩ = some (.int .i64 c.progs[k][j].op) := hcc j hjt 0 _ rfl
       have c1 : w.cell? ⟨b2,o2 + j * 3 + 1,none⟩ = some (.int .i64 c.progs[k][j].a) := hcc j hjt 1 _ rfl
       have c2 : w.cell? ⟨b2,o2 + j * 3 + 2,none⟩ = some (.int .i64 c.progs[k][j].b) := hcc j hjt 2 _ rfl
       by_cases hok : agV c.levels c.progs.length c.progs[k][j] = true
       ·go_wp2_with (first | (go_at_call 68; refine (ah0 c ⟨some ⟨b,o,none⟩,pc,sa,sc⟩ c.progs[k][j] _ h1 h2 hlen).mono ?_; rintro e w' ⟨rfl,hbv⟩))
        go_roundw
        case rel =>exact ⟨j + 1,by omega,by go_num,alg hjt hq hok,(hb2.alloc (by omega) _).trans (hbv.mono (by simp; omega))⟩
        case measure =>simp [intOf]; omega
       ·have hok' : agV c.levels c.progs.length c.progs[k][j] = false := by simpa using hok
        clear hok
        have hres := Lib.hid (ahn hlt hi (by omega) hjt hok')
        go_wp2_with (first | (go_at_call 68; refine (ah0 c ⟨some ⟨b,o,none⟩,pc,sa,sc⟩ c.progs[k][j] _ h1 h2 hlen).mono ?_; rintro e w' ⟨rfl,hbv⟩))
        go_ret
        exact ⟨adi (by rw [Hfin.out,hres.out]),((Below.refl _ _).alloc (Nat.le_refl _) _).trans (((hb2.alloc (by omega) _).trans (hbv.mono (by simp; omega))).mono (by omega))⟩
      ·obtain ⟨hcs,hfz⟩ := amA hb2
       go_wp2
       go_roundw
       case rel =>exact ⟨k + 1,by omega,by go_num,agL hlt hi (by omega) (by
        have e : j = c.progs[k].length := by omega
        subst e; exact hq),hb2⟩
       case measure =>simp [intOf]; omega
   ·go_wp2
    go_ret
    exact ⟨adi (by
     have hi' : abh c.levels c.progs.length (c.progs.drop k) = abh c.levels c.progs.length c.progs := hi
     rw [Hfin.out,← hi',List.drop_eq_nil_of_le (by omega)]; rfl),hbw⟩
 ·have hfin : acm c = 2 := by simp [acm,hp]
  have Hfin := Lib.hid hfin
  clear hfin
  unfold amK
  go_enter Tryz.func39,Tryz.ntmps39
  go_wp2_with (first | (go_at_call 67; refine (adg _ _ _ _).mono ?_; rintro e w' ⟨rfl,rfl⟩))
  go_ret
  exact ⟨adi Hfin.out.symm,(Below.refl _ _).alloc (Nat.le_refl _) _⟩
theorem ah1 {lv np : Int} {ss : List Sub} {k : Nat} (hk : k < ss.length) (h : ab2 lv np (ss.drop k) = ab2 lv np ss) {e : Int} (he : ago lv np ss[k] = e) (hne : e ≠ 0) : ab2 lv np ss = e := by
 subst he
 rw [← h,List.drop_eq_getElem_cons hk]; simp [ab2,hne]
theorem ahd {lv np : Int} {ss : List Sub} {k : Nat} (hk : k < ss.length) (h : ab2 lv np (ss.drop k) = ab2 lv np ss) (he : ago lv np ss[k] = 0) : ab2 lv np (ss.drop (k + 1)) = ab2 lv np ss := by
 rw [← h,List.drop_eq_getElem_cons hk]; simp [ab2,he]
def aAG (lv np : Int) (ss : List Sub) (k : Nat) : Prop := ab2 lv np (ss.drop k) = ab2 lv np ss
set_option maxHeartbeats 2000000 in
theorem anL (c : Cfg) (l : CfgAt) (w : World) (h1 : 1 ≤ c.levels) (h2 : c.levels ≤ 64) (hc : ag8 w w.heap.size c l) :
  Calls Tryz.prog 40 #[amK c l] w fun e w' =>e = .returned (.int .i64 (adY c)) ∧ Below w.heap.size w w' := by
 have hlen := hc.1.1
 have hlen2 := hc.2.1
 by_cases hp : 64 < c.subs.length
 ·have hfin : adY c = 2 := by simp [adY,hp]
  have Hfin := Lib.hid hfin
  clear hfin
  unfold amK
  go_enter Tryz.func40,Tryz.ntmps40
  go_wp2
  go_ret
  exact ⟨adi Hfin.out.symm,(Below.refl _ _).alloc (Nat.le_refl _) _⟩
 ·have hfin : adY c = ab2 c.levels c.progs.length c.subs := by simp [adY,hp]
  have Hfin := Lib.hid hfin
  clear hfin
  unfold amK
  go_enter Tryz.func40,Tryz.ntmps40
  go_wp2
  go_loopw [12] (fun i wr =>∃ k : Nat,k ≤ c.subs.length ∧ i = .int .i64 k ∧ aAG c.levels c.progs.length c.subs k ∧ Below (w.heap.size + 1) (w.alloc (asB c l)) wr) (fun i _ =>c.subs.length - (intOf i).toNat)
  case atStart =>exact ⟨0,Nat.zero_le _,rfl,rfl,Below.refl _ _⟩
  case round =>
   obtain ⟨k,hk,rfl,hi,hb⟩ := hrel
   have hB : w.heap.size < wr.heap.size := by have := hb.size; simp at this; omega
   have hbw : Below w.heap.size w wr := ((Below.refl _ _).alloc (Nat.le_refl _) _).trans (hb.mono (by omega))
   obtain ⟨hcs,hfz⟩ := amA hb
   by_cases hlt : k < c.subs.length
   ·obtain ⟨b,o,hpa,hbb,hcc⟩ := hc.2.at_ hlt
    obtain ⟨pa,pc,sa,sc⟩ := l
    obtain rfl : sa = some ⟨b,o,none⟩ := hpa
    have c0 : w.cell? ⟨b,o + k * 3,none⟩ = some (.int .i64 c.subs[k].prog) := hcc k hlt 0 _ rfl
    have c1 : w.cell? ⟨b,o + k * 3 + 1,none⟩ = some (.int .i64 c.subs[k].level) := hcc k hlt 1 _ rfl
    have c2 : w.cell? ⟨b,o + k * 3 + 2,none⟩ = some (.int .i64 c.subs[k].deadline) := hcc k hlt 2 _ rfl
    have hse : ago c.levels c.progs.length c.subs[k] = if !inB c.subs[k].prog 0 (c.progs.length - 1) then 3 else if !inB c.subs[k].level 0 (c.levels - 1) || !inB c.subs[k].deadline 0 16777215 then 1 else 0 := rfl
    have Hse := Lib.hid hse
    clear hse
    have bad := fun e he hne =>Lib.hid (ah1 (e := e) hlt hi he hne)
    by_cases g1 : inB c.subs[k].prog 0 (c.progs.length - 1) = true
    ·by_cases g2 : inB c.subs[k].level 0 (c.levels - 1) = true
     ·by_cases g3 : inB c.subs[k].deadline 0 16777215 = true
      ·go_wp2_with (first | (go_at_call 67; refine (adg _ _ _ _).mono ?_; rintro e w' ⟨rfl,rfl⟩))
       go_roundw
       case rel =>exact ⟨k + 1,by omega,by go_num,ahd hlt hi (by rw [Hse.out]; simp [g1,g2,g3]),hb.alloc (by omega) _⟩
       case measure =>simp [intOf]; omega
      ·go_wp2_with (first | (go_at_call 67; refine (adg _ _ _ _).mono ?_; rintro e w' ⟨rfl,rfl⟩))
       go_ret
       exact ⟨adi (by rw [Hfin.out,(bad 1 (by rw [Hse.out]; simp [g1,g2,g3]) (by omega)).out]),hbw.alloc (by omega) _⟩
     ·go_wp2_with (first | (go_at_call 67; refine (adg _ _ _ _).mono ?_; rintro e w' ⟨rfl,rfl⟩))
      go_ret
      exact ⟨adi (by rw [Hfin.out,(bad 1 (by rw [Hse.out]; simp [g1,g2]) (by omega)).out]),hbw.alloc (by omega) _⟩
    ·go_wp2_with (first | (go_at_call 67; refine (adg _ _ _ _).mono ?_; rintro e w' ⟨rfl,rfl⟩))
     go_ret
     exact ⟨adi (by rw [Hfin.out,(bad 3 (by rw [Hse.out]; simp [g1]) (by omega)).out]),hbw.alloc (by omega) _⟩
   ·go_wp2
    go_ret
    exact ⟨adi (by
     have hi' : ab2 c.levels c.progs.length (c.subs.drop k) = ab2 c.levels c.progs.length c.subs := hi
     rw [Hfin.out,← hi',List.drop_eq_nil_of_le (by omega)]; rfl),hbw⟩
set_option maxHeartbeats 2000000 in
theorem amy (c : Cfg) (l : CfgAt) (w : World) (hc : ag8 w w.heap.size c l) :
  Calls Tryz.prog 24 #[amK c l] w fun e w' =>e = .returned (.int .i64 (aeh c)) ∧ Below w.heap.size w w' := by
 by_cases hn : agP c = true
 ·obtain ⟨_,_,h1,h2,_⟩ := aiJ hn
  by_cases hp : acm c = 0
  ·have hfin : aeh c = adY c := by simp [aeh,hn,hp]
   have Hfin := Lib.hid hfin
   clear hfin
   unfold amK
   go_enter Tryz.func24,Tryz.ntmps24
   go_wp2_with fail
   refine (ad4 c l _).mono ?_; rintro e w1 ⟨rfl,hb1⟩
   obtain ⟨hc1,hf1⟩ := amA hb1
   have hw1 := ahG hb1
   go_wp2_with fail
   refine (afj c l _ h1 h2 (hc.up hw1)).mono ?_; rintro e w2 ⟨rfl,hb2⟩
   have hw2 := aei hw1 hb2
   obtain ⟨hc2,hf2⟩ := amA (aei hb1 hb2)
   clear hc1 hf1
   go_wp2_with fail
   refine (anL c l _ h1 h2 (hc.up hw2)).mono ?_; rintro e w3 ⟨rfl,hb3⟩
   go_wp2_with fail
   go_ret
   exact ⟨adi Hfin.out.symm,aei hw2 hb3⟩
  ·have hfin : aeh c = acm c := by simp [aeh,hn,hp]
   have Hfin := Lib.hid hfin
   have hp' : (acm c == 0) = false := by simpa using hp
   clear hfin hp
   unfold amK
   go_enter Tryz.func24,Tryz.ntmps24
   go_wp2_with fail
   refine (ad4 c l _).mono ?_; rintro e w1 ⟨rfl,hb1⟩
   obtain ⟨hc1,hf1⟩ := amA hb1
   have hw1 := ahG hb1
   go_wp2_with fail
   refine (afj c l _ h1 h2 (hc.up hw1)).mono ?_; rintro e w2 ⟨rfl,hb2⟩
   have hw2 := aei hw1 hb2
   obtain ⟨hc2,hf2⟩ := amA (aei hb1 hb2)
   clear hc1 hf1
   go_wp2_with fail
   go_ret
   exact ⟨adi Hfin.out.symm,hw2⟩
 ·have hfin : aeh c = 1 := by simp [aeh,hn]
  have Hfin := Lib.hid hfin
  clear hfin
  unfold amK
  go_enter Tryz.func24,Tryz.ntmps24
  go_wp2_with fail
  refine (ad4 c l _).mono ?_; rintro e w1 ⟨rfl,hb1⟩
  have hw1 := ahG hb1
  go_wp2_with fail
  go_ret
  exact ⟨adi Hfin.out.symm,hw1⟩
end
section
open Go Go.RowKit
variable [Tb]
theorem awX {f : FuncId} (hf : Nat.blt f aeu = true) {r : Cfg → Int} (h : ∀ (c : Cfg) (l : CfgAt) (w : World),ag8 w w.heap.size c l → Calls Tryz.prog f #[amK c l] w fun e w' =>e = .returned (.int .i64 (r c)) ∧ Below w.heap.size w w') :
  CO Tryz.prog (⟨f,[.val 13],[.sh sI_],fun x =>some ((r x.1,()),())⟩ : Con SR1) := fun x out hx B W hg vs F w hc =>by
 obtain ⟨hb,hB,hs⟩ := hc
 replace hx : (some ((r x.1,()),()) : Option ((Int × Unit) × Unit)) = some out := hx
 obtain rfl := Option.some.inj hx
 show aek Tryz.prog f _ w _
 rw [adh hf]
 rcases vs with _ | ⟨v1,_ | ⟨v2,vs⟩⟩
 ·exact aaR hs
 ·replace hs : Sat B w (as8 SR1 13 x.1 v1 :: [F]) := hs
  obtain ⟨p,rfl,hp,s1⟩ := avK hs
  exact (h x.1 p w hp).mono fun e w' ⟨he,hb'⟩ =>⟨[.int .i64 (r x.1)],he,hb.trans (hb'.mono hB),Nat.le_trans hB hb'.size,axx (S := SR1) (s1.below hb')⟩
 ·replace hs : Sat B w (as8 SR1 13 x.1 v1 :: ([fun _ =>False] ++ [F])) := hs
  exact aaR hs.drop
def ak9 (c : Cfg) : Option ((Int × Unit) × Unit) := some ((aeh c,()),())
noncomputable abbrev aj3 : Con SR1 := ⟨24,[.val 13],[.sh sI_],fun x =>ak9 x.1⟩
theorem anM : CO Tryz.prog aj3 := awX (by kernel_rfl) amy
end
section
open Go.RowKit
end
section
open Go Go.RowKit
variable [Tb]
end
section
open Go
def aa0 {α : Type} (o : Option α) (P : α → Prop) : Prop := ∃ x,o = some x ∧ P x
section
variable {α β : Type} {o : Option α} {P Q : α → Prop} {x : α}
theorem aa0.some_ (h : P x) : aa0 (some x) P := ⟨x,rfl,h⟩
theorem aa0.bind {f : α → Option β} {Q : β → Prop} (h : aa0 o P) (k : ∀ x,P x → aa0 (f x) Q) : aa0 (o.bind f) Q := by
 obtain ⟨x,rfl,hx⟩ := h
 exact k x hx
theorem aa0.ite {c : Prop} [Decidable c] {a b : Option α} (h1 : c → aa0 a P) (h2 : ¬ c → aa0 b P) : aa0 (if c then a else b) P := by
 by_cases h : c
 ·rw [if_pos h]; exact h1 h
 ·rw [if_neg h]; exact h2 h
theorem aa0.guard {c : Prop} [Decidable c] {a b : Option α} (h : c) (k : c → aa0 a P) : aa0 (if c then a else b) P := by rw [if_pos h]; exact k h
theorem aa0.mono (h : aa0 o P) (k : ∀ x,P x → Q x) : aa0 o Q := by
 obtain ⟨x,e,hx⟩ := h
 exact ⟨x,e,k x hx⟩
end
def Rg (x : Int) : Prop := -9223372036854775808 ≤ x ∧ x ≤ 9223372036854775807
theorem aa7 {x : Int} (h : Rg x) : wi x = x := w64 h.1 h.2
theorem aab {x : Int} (h : -1000000000000 ≤ x ∧ x ≤ 1000000000000) : Rg x := by unfold Rg; omega
theorem aqm {a b : Int} (h1 : 1 ≤ b) (h2 : 0 ≤ a) : 0 ≤ Int.tmod a b ∧ Int.tmod a b < b := ⟨Int.tmod_nonneg b h2,Int.tmod_lt_of_pos a (by omega)⟩
theorem acl {σ β : Type} {F : (σ → Option β) → σ → Option β} (I : σ → Prop) (μ : σ → Nat) {P : β → Prop} (step : ∀ self x,I x → (∀ y,I y → μ y < μ x → aa0 (self y) P) → aa0 (F self x) P) : ∀ k x,I x → μ x < k → aa0 (lpF F k x) P
 | 0,x,_,h =>by omega
 | k + 1,x,hx,h =>step (lpF F k) x hx fun y hy hlt =>acl I μ step k y hy (by omega)
theorem ajr {α : Type} {d : α} {xs : List α} {i : Int} (h : 0 ≤ i ∧ i < (xs.length : Int)) : atL d xs i ∈ xs := List.mem_of_getElem? (abZ h)
theorem aj4 {α β : Type} {G : Prop} [d : Decidable G] (A : Option α) (f : α → Option β) : (A.bind fun r =>if G then f r else none) = if G then A.bind f else none := by
 by_cases h : G
 ·simp only [if_pos h]
 ·simp only [if_neg h]; cases A <;> rfl
end
section
open Go Go.RowKit
set_option maxRecDepth 100000
variable [Tb]
abbrev aat (xs : List TkV) (i : Int) : TkV := atL (dfR 61 : TR 61) xs i
abbrev abS (xs : List WlV) (i : Int) : WlV := atL (dfR 62 : TR 62) xs i
abbrev amD (xs : List UseV) (i : Int) : UseV := atL (dfR 67 : TR 67) xs i
abbrev ads (xs : List KyV) (i : Int) : KyV := atL (dfR 68 : TR 68) xs i
abbrev aaf (xs : List TkP) (i : Int) : TkP := atL (dfR 70 : TR 70) xs i
abbrev aak (xs : List WkP) (i : Int) : WkP := atL (dfR 71 : TR 71) xs i
abbrev ws7 (xs : List RecV) (i : Int) : List RecV := xs.set i.toNat (aap xs i)
abbrev abb (xs : List TkP) (i : Int) : List TkP := xs.set i.toNat (aaf xs i)
abbrev acV (xs : List TkP) (i : Int) (f : TkP → TkP) : List TkP := xs.set i.toNat (f (aaf xs i))
abbrev aaP (xs : List WkP) (i : Int) : List WkP := xs.set i.toNat (aak xs i)
abbrev acU (xs : List WkP) (i : Int) (f : WkP → WkP) : List WkP := xs.set i.toNat (f (aak xs i))
noncomputable def abm (r : CodV) (k : Int) : Option ((Int × Unit) × (CodV × Unit)) :=
 if r.at_ < ((r.inn.length : Nat) : Int) then
  if 0 ≤ r.at_ ∧ r.at_ < ((r.inn.length : Nat) : Int) then
   if k ≠ 0 then
   some (((Int.tmod (wi (aeU r.inn r.at_)) k),()),(({ r with at_ := wi (r.at_ + 1) } : CodV),()))
   else none
  else none
 else
 some ((0,()),(({ r with at_ := wi (r.at_ + 1) } : CodV),()))
noncomputable abbrev ajK : Con SR1 := ⟨28,[.ref 19,.sh sI_],[.sh sI_],fun x =>abm x.1 x.2.1⟩
theorem anb : CO Tryz.prog ajK := aaC aaB Tryz.func28 [] trivial [] trivial (fun _ =>[]) [] fun x =>by kernel_rfl
noncomputable def aib (b : List Int) : Option ((Cfg × Unit) × (Unit)) :=
 (abm (⟨b,[],0,false⟩ : CodV) 4).bind fun r1 =>
 (abm r1.2.1 4).bind fun r2 =>
 (abm r2.2.1 (if wi (1 + r2.1.1) < 3 then wi (1 + r2.1.1) else 3)).bind fun r3 =>
 (abm r3.2.1 12).bind fun r4 =>
 (abm r4.2.1 4).bind fun r5 =>
 (abm r5.2.1 4).bind fun r6 =>
 (abm r6.2.1 (wi (1 + r5.1.1))).bind fun r7 =>
 (abm r7.2.1 6).bind fun r8 =>
 (abm r8.2.1 8).bind fun r9 =>
 (abm r9.2.1 4).bind fun r10 =>
 (lpF (σ := Int × CodV × Cfg × Unit) (β := Int × CodV × Cfg × Unit) (fun self13 x11 =>
  if x11.1 < (wi (1 + r10.1.1)) then
   (abm x11.2.1 6).bind fun r14 =>
   (lpF (σ := List Ins × Int × CodV × Unit) (β := List Ins × Int × CodV × Unit) (fun self17 x15 =>
   if 0 < x15.2.1 then
   (abm x15.2.2.1 3).bind fun r18 =>
   if r18.1.1 = 0 then
   (abm r18.2.1 4).bind fun r19 =>
   if (((x15.1.length + ([(⟨r18.1.1,wi (1 + r19.1.1),0⟩ : Ins)] : List Ins).length : Nat)) : Int) < 1000000000000 then
   self17 (x15.1 ++ ([(⟨r18.1.1,wi (1 + r19.1.1),0⟩ : Ins)]),wi (x15.2.1 - 1),r19.2.1,())
   else none
   else
   if r18.1.1 = 1 then
   (abm r18.2.1 (wi (1 + r10.1.1))).bind fun r20 =>
   (abm r20.2.1 x11.2.2.1.levels).bind fun r21 =>
   if (((x15.1.length + ([(⟨r18.1.1,r20.1.1,r21.1.1⟩ : Ins)] : List Ins).length : Nat)) : Int) < 1000000000000 then
   self17 (x15.1 ++ ([(⟨r18.1.1,r20.1.1,r21.1.1⟩ : Ins)]),wi (x15.2.1 - 1),r21.2.1,())
   else none
   else
   (abm r18.2.1 4).bind fun r22 =>
   if (((x15.1.length + ([(⟨r18.1.1,r22.1.1,0⟩ : Ins)] : List Ins).length : Nat)) : Int) < 1000000000000 then
   self17 (x15.1 ++ ([(⟨r18.1.1,r22.1.1,0⟩ : Ins)]),wi (x15.2.1 - 1),r22.2.1,())
   else none
   else
   some (x15.1,x15.2.1,x15.2.2.1,())
   ) 18446744073709551616 ([],r14.1.1,r14.2.1,())).bind fun z16 =>
   if (((x11.2.2.1.progs.length + ([z16.1] : List (List Ins)).length : Nat)) : Int) < 100000000000 then
   self13 (wi (x11.1 + 1),z16.2.2.1,({ x11.2.2.1 with progs := x11.2.2.1.progs ++ ([z16.1]) } : Cfg),())
   else none
  else
  some (x11.1,x11.2.1,x11.2.2.1,())
 ) 18446744073709551616 (0,r10.2.1,(⟨wi (1 + r1.1.1),wi (1 + r2.1.1),wi (1 + r3.1.1),wi (1 + r4.1.1),wi (1 + r5.1.1),wi (1 + r6.1.1),wi (1 + r7.1.1),r8.1.1,wi (1 + r9.1.1),[],[]⟩ : Cfg),())).bind fun z12 =>
 (abm z12.2.1 6).bind fun r23 =>
 (lpF (σ := Int × CodV × Cfg × Unit) (β := Int × CodV × Cfg × Unit) (fun self26 x24 =>
  if 0 < x24.1 then
   (abm x24.2.1 (wi (1 + r10.1.1))).bind fun r27 =>
   (abm r27.2.1 x24.2.2.1.levels).bind fun r28 =>
   (abm r28.2.1 16).bind fun r29 =>
   if (((x24.2.2.1.subs.length + ([(⟨r27.1.1,r28.1.1,r29.1.1⟩ : Sub)] : List Sub).length : Nat)) : Int) < 1000000000000 then
   self26 (wi (x24.1 - 1),r29.2.1,({ x24.2.2.1 with subs := x24.2.2.1.subs ++ ([(⟨r27.1.1,r28.1.1,r29.1.1⟩ : Sub)]) } : Cfg),())
   else none
  else
  some (x24.1,x24.2.1,x24.2.2.1,())
 ) 18446744073709551616 (r23.1.1,r23.2.1,z12.2.2.1,())).bind fun z25 =>
 some ((z25.2.2.1,()),())
noncomputable abbrev ajL : Con SR1 := ⟨15,[.sh (.ro 17)],[.val 13],fun x =>aib x.1⟩
theorem anc : CO Tryz.prog ajL := aaC aaB Tryz.func15 [ajK] ⟨anb,trivial⟩ [] trivial (fun _ =>[]) [(12,.loop [.rg 6 sI_,.rg 3 (.own 19),.rg 4 (.own 20)] 18446744073709551616 0),(16,.loop [.rg 7 (.row 3),.rg 8 sI_,.rg 3 (.own 19)] 18446744073709551616 2),(29,.loop [.rg 10 sI_,.rg 3 (.own 19),.rg 4 (.own 20)] 18446744073709551616 5)] fun x =>by kernel_rfl
noncomputable def aiS (b : List Int) : Option ((Cfg × Unit) × (Unit)) :=
 (aib b).bind fun r1 =>
 some ((r1.1.1,()),())
noncomputable abbrev aiR : Con SR1 := ⟨8,[.sh (.ro 17)],[.val 13],fun x =>aiS x.1⟩
theorem ajU : CO Tryz.prog aiR := aaC aaB Tryz.func8 [ajL] ⟨anc,trivial⟩ [] trivial (fun _ =>[]) [] fun x =>by kernel_rfl
noncomputable def aoE (b : List Int) (l : List (List Int)) : Option ((Bool × Unit) × (Unit)) :=
 (lpF (σ := Int × Unit) (β := (Int × Unit) ⊕ ((Bool × Unit) × (Unit))) (fun self3 x1 =>
  if x1.1 < ((l.length : Nat) : Int) then
   if 0 ≤ x1.1 ∧ x1.1 < ((l.length : Nat) : Int) then
   if 400 < (((atL [] l x1.1).length : Nat) : Int) then
   Option.map Sum.inr (
   some ((false,()),())
   )
   else
   self3 (wi (x1.1 + 1),())
   else none
  else
  some (Sum.inl (x1.1,()))
 ) 18446744073709551616 (0,())).bind fun z2 =>match z2 with
 | .inr o4 =>some o4
 | .inl z2 =>
 some ((decide (((b.length : Nat) : Int) ≤ 400),()),())
noncomputable abbrev aoD : Con SR1 := ⟨7,[.sh (.ro 17),.sh (.rr 1)],[.sh .b],fun x =>aoE x.1 x.2.1⟩
theorem arP : CO Tryz.prog aoD := aaC aaB Tryz.func7 [] trivial [] trivial (fun _ =>[]) [(2,.loopR [.rg 5 sI_] 18446744073709551616 0)] fun x =>by kernel_rfl
noncomputable def azg (m : MemV) (a : Int) : Option ((Bool × Unit) × (MemV × Unit)) :=
 if 0 ≤ a then
  some ((decide (a < ((m.cells.length : Nat) : Int)),()),(m,()))
 else
 some ((false,()),(m,()))
noncomputable abbrev auZ : Con SR1 := ⟨181,[.ref 9,.sh sI_],[.sh .b],fun x =>azg x.1 x.2.1⟩
theorem av1 : CO Tryz.prog auZ := aaC aaB Tryz.func181 [] trivial [] trivial (fun _ =>[]) [] fun x =>by kernel_rfl
noncomputable def aaz (m : MemV) (kind : Int) (a : Int) (v : Int) (w : Int) : Option ((Int × Bool × Unit) × (MemV × Unit)) :=
 (azg m a).bind fun r1 =>
 if (!r1.1.1) = true then
  some ((0,false,()),(r1.2.1,()))
 else
 if 0 ≤ a ∧ a < ((r1.2.1.cells.length : Nat) : Int) then
  if kind = 2 then
   if 0 ≤ a ∧ a < ((r1.2.1.cells.length : Nat) : Int) then
   some ((afS r1.2.1.cells a,true,()),((⟨r1.2.1.cells.set a.toNat v,⟨kind,a,afS r1.2.1.cells a,v⟩,wi (r1.2.1.count + 1)⟩ : MemV),()))
   else none
  else
  if kind = 3 then
   if (afS r1.2.1.cells a) = v then
   if 0 ≤ a ∧ a < ((r1.2.1.cells.length : Nat) : Int) then
   some ((afS r1.2.1.cells a,decide ((afS r1.2.1.cells a) = v),()),((⟨r1.2.1.cells.set a.toNat w,⟨kind,a,afS r1.2.1.cells a,w⟩,wi (r1.2.1.count + 1)⟩ : MemV),()))
   else none
   else
   if 0 ≤ a ∧ a < ((r1.2.1.cells.length : Nat) : Int) then
   some ((afS r1.2.1.cells a,decide ((afS r1.2.1.cells a) = v),()),((⟨r1.2.1.cells.set a.toNat (afS r1.2.1.cells a),⟨kind,a,afS r1.2.1.cells a,afS r1.2.1.cells a⟩,wi (r1.2.1.count + 1)⟩ : MemV),()))
   else none
  else
  if kind = 4 then
   if 0 ≤ a ∧ a < ((r1.2.1.cells.length : Nat) : Int) then
   some ((afS r1.2.1.cells a,true,()),((⟨r1.2.1.cells.set a.toNat (orU (afS r1.2.1.cells a) v),⟨kind,a,afS r1.2.1.cells a,orU (afS r1.2.1.cells a) v⟩,wi (r1.2.1.count + 1)⟩ : MemV),()))
   else none
  else
  if kind = 5 then
   if 0 ≤ a ∧ a < ((r1.2.1.cells.length : Nat) : Int) then
   some ((afS r1.2.1.cells a,true,()),((⟨r1.2.1.cells.set a.toNat (azZ (afS r1.2.1.cells a) v),⟨kind,a,afS r1.2.1.cells a,azZ (afS r1.2.1.cells a) v⟩,wi (r1.2.1.count + 1)⟩ : MemV),()))
   else none
  else
  if kind = 6 then
   if 0 ≤ a ∧ a < ((r1.2.1.cells.length : Nat) : Int) then
   some ((afS r1.2.1.cells a,true,()),((⟨r1.2.1.cells.set a.toNat (wu ((afS r1.2.1.cells a) + v)),⟨kind,a,afS r1.2.1.cells a,wu ((afS r1.2.1.cells a) + v)⟩,wi (r1.2.1.count + 1)⟩ : MemV),()))
   else none
  else
  if 0 ≤ a ∧ a < ((r1.2.1.cells.length : Nat) : Int) then
   some ((afS r1.2.1.cells a,true,()),((⟨r1.2.1.cells.set a.toNat (afS r1.2.1.cells a),⟨kind,a,afS r1.2.1.cells a,afS r1.2.1.cells a⟩,wi (r1.2.1.count + 1)⟩ : MemV),()))
  else none
 else none
noncomputable abbrev acd : Con SR1 := ⟨153,[.ref 9,.sh sI_,.sh sI_,.sh sU_,.sh sU_],[.sh sU_,.sh .b],fun x =>aaz x.1 x.2.1 x.2.2.1 x.2.2.2.1 x.2.2.2.2.1⟩
theorem abR : CO Tryz.prog acd := aaC aaB Tryz.func153 [auZ] ⟨av1,trivial⟩ [] trivial (fun _ =>[]) [] fun x =>by kernel_rfl
noncomputable def ae7 (a : Int) (b : Int) (c : Int) (d : Int) : Option ((Int × Unit) × (Unit)) :=
 if b < 0 then
  some (((-1),()),())
 else
 if c ≤ b then
  some (((-1),()),())
 else
 some ((wi (a + (wi (b * d))),()),())
noncomputable abbrev aeb : Con SR1 := ⟨148,[.sh sI_,.sh sI_,.sh sI_,.sh sI_],[.sh sI_],fun x =>ae7 x.1 x.2.1 x.2.2.1 x.2.2.2.1⟩
theorem aea : CO Tryz.prog aeb := aaC aaB Tryz.func148 [] trivial [] trivial (fun _ =>[]) [] fun x =>by kernel_rfl
noncomputable def agE (c : Cfg) : Option ((Int × Unit) × (Unit)) :=
 some ((wi ((wi ((wi (4 + c.heap)) + c.classes)) + (wi (2 * c.workers))),()),())
noncomputable abbrev afx : Con SR1 := ⟨82,[.val 13],[.sh sI_],fun x =>agE x.1⟩
theorem af7 : CO Tryz.prog afx := aaC aaB Tryz.func82 [] trivial [] trivial (fun _ =>[]) [] fun x =>by kernel_rfl
noncomputable def ad0 (c : Cfg) (a : Int) (b : Int) : Option ((QV × Unit) × (Unit)) :=
 if a < 0 then
  some (((⟨(-1),(-1),(-1),0⟩ : QV),()),())
 else
 if c.workers ≤ a then
  some (((⟨(-1),(-1),(-1),0⟩ : QV),()),())
 else
 if b < 0 then
  some (((⟨(-1),(-1),(-1),0⟩ : QV),()),())
 else
 if c.levels ≤ b then
  some (((⟨(-1),(-1),(-1),0⟩ : QV),()),())
 else
 (agE c).bind fun r1 =>
 if c.deque = c.deque then
  if c.levels = c.levels then
   some (((⟨wi (r1.1.1 + (wi ((wi ((wi (a * c.levels)) + b)) * (wi (2 + c.deque))))),wi ((wi (r1.1.1 + (wi ((wi ((wi (a * c.levels)) + b)) * (wi (2 + c.deque)))))) + 1),wi ((wi (r1.1.1 + (wi ((wi ((wi (a * c.levels)) + b)) * (wi (2 + c.deque)))))) + 2),c.deque⟩ : QV),()),())
  else none
 else none
noncomputable abbrev aiA : Con SR1 := ⟨100,[.val 13,.sh sI_,.sh sI_],[.val 14],fun x =>ad0 x.1 x.2.1 x.2.2.1⟩
theorem ajH : CO Tryz.prog aiA := aaC aaB Tryz.func100 [afx] ⟨af7,trivial⟩ [] trivial (fun _ =>[]) [] fun x =>by kernel_rfl
noncomputable def ahS (c : Cfg) (a : Int) (b : Int) : Option ((Int × Unit) × (Unit)) :=
 (agE c).bind fun r1 =>
 if c.tasks = c.tasks then
  if c.deque = c.deque then
   if c.levels = c.levels then
   if c.workers = c.workers then
   (ae7 (wi (r1.1.1 + (wi ((wi (c.workers * c.levels)) * (wi (2 + c.deque)))))) a c.tasks 5).bind fun r2 =>
   if r2.1.1 < 0 then
   some (((-1),()),())
   else
   some ((wi (r2.1.1 + b),()),())
   else none
   else none
  else none
 else none
noncomputable abbrev afw : Con SR1 := ⟨182,[.val 13,.sh sI_,.sh sI_],[.sh sI_],fun x =>ahS x.1 x.2.1 x.2.2.1⟩
theorem ae4 : CO Tryz.prog afw := aaC aaB Tryz.func182 [afx,aeb] ⟨af7,aea,trivial⟩ [] trivial (fun _ =>[]) [] fun x =>by kernel_rfl
noncomputable def aeM (c : Cfg) (a : Int) : Option ((Int × Unit) × (Unit)) :=
 (ae7 4 a c.heap 1).bind fun r1 =>
 some ((r1.1.1,()),())
noncomputable abbrev akz : Con SR1 := ⟨159,[.val 13,.sh sI_],[.sh sI_],fun x =>aeM x.1 x.2.1⟩
theorem alV : CO Tryz.prog akz := aaC aaB Tryz.func159 [aeb] ⟨aea,trivial⟩ [] trivial (fun _ =>[]) [] fun x =>by kernel_rfl
noncomputable def acP (c : Cfg) (a : Int) : Option ((Int × Unit) × (Unit)) :=
 (ahS c a 0).bind fun r1 =>
 some ((r1.1.1,()),())
noncomputable abbrev adb : Con SR1 := ⟨167,[.val 13,.sh sI_],[.sh sI_],fun x =>acP x.1 x.2.1⟩
theorem acY : CO Tryz.prog adb := aaC aaB Tryz.func167 [afw] ⟨ae4,trivial⟩ [] trivial (fun _ =>[]) [] fun x =>by kernel_rfl
noncomputable def acQ (c : Cfg) (a : Int) : Option ((Int × Unit) × (Unit)) :=
 (ahS c a 1).bind fun r1 =>
 some ((r1.1.1,()),())
noncomputable abbrev adC : Con SR1 := ⟨165,[.val 13,.sh sI_],[.sh sI_],fun x =>acQ x.1 x.2.1⟩
theorem adu : CO Tryz.prog adC := aaC aaB Tryz.func165 [afw] ⟨ae4,trivial⟩ [] trivial (fun _ =>[]) [] fun x =>by kernel_rfl
noncomputable def acy (c : Cfg) (a : Int) : Option ((Int × Unit) × (Unit)) :=
 (ae7 (wi ((wi ((wi (4 + c.heap)) + c.classes)) + c.workers)) a c.workers 1).bind fun r1 =>
 some ((r1.1.1,()),())
noncomputable abbrev adv : Con SR1 := ⟨101,[.val 13,.sh sI_],[.sh sI_],fun x =>acy x.1 x.2.1⟩
theorem adD : CO Tryz.prog adv := aaC aaB Tryz.func101 [aeb] ⟨aea,trivial⟩ [] trivial (fun _ =>[]) [] fun x =>by kernel_rfl
noncomputable def aiC (c : Cfg) : Option ((Int × Unit) × (Unit)) :=
 (agE c).bind fun r1 =>
 if c.tasks = c.tasks then
  if c.deque = c.deque then
   if c.levels = c.levels then
   if c.workers = c.workers then
   some ((wi ((wi (r1.1.1 + (wi ((wi (c.workers * c.levels)) * (wi (2 + c.deque)))))) + (wi (5 * c.tasks))),()),())
   else none
   else none
  else none
 else none
noncomputable abbrev alX : Con SR1 := ⟨59,[.val 13],[.sh sI_],fun x =>aiC x.1⟩
theorem apC : CO Tryz.prog alX := aaC aaB Tryz.func59 [afx] ⟨af7,trivial⟩ [] trivial (fun _ =>[]) [] fun x =>by kernel_rfl
noncomputable def adZ (c : Cfg) (a : Int) : Option ((Int × Unit) × (Unit)) :=
 (ahS c a 4).bind fun r1 =>
 some ((r1.1.1,()),())
noncomputable abbrev agD : Con SR1 := ⟨166,[.val 13,.sh sI_],[.sh sI_],fun x =>adZ x.1 x.2.1⟩
theorem ahj : CO Tryz.prog agD := aaC aaB Tryz.func166 [afw] ⟨ae4,trivial⟩ [] trivial (fun _ =>[]) [] fun x =>by kernel_rfl
noncomputable def af6 (c : Cfg) (a : Int) : Option ((Int × Unit) × (Unit)) :=
 (ahS c a 3).bind fun r1 =>
 some ((r1.1.1,()),())
noncomputable abbrev aiz : Con SR1 := ⟨168,[.val 13,.sh sI_],[.sh sI_],fun x =>af6 x.1 x.2.1⟩
theorem ajG : CO Tryz.prog aiz := aaC aaB Tryz.func168 [afw] ⟨ae4,trivial⟩ [] trivial (fun _ =>[]) [] fun x =>by kernel_rfl
noncomputable def adt (c : Cfg) (a : Int) : Option ((Int × Unit) × (Unit)) :=
 (ae7 (wi (4 + c.heap)) a c.classes 1).bind fun r1 =>
 some ((r1.1.1,()),())
noncomputable abbrev ae6 : Con SR1 := ⟨169,[.val 13,.sh sI_],[.sh sI_],fun x =>adt x.1 x.2.1⟩
theorem agC : CO Tryz.prog ae6 := aaC aaB Tryz.func169 [aeb] ⟨aea,trivial⟩ [] trivial (fun _ =>[]) [] fun x =>by kernel_rfl
noncomputable def ahk (c : Cfg) (a : Int) : Option ((Int × Unit) × (Unit)) :=
 (ae7 (wi ((wi (4 + c.heap)) + c.classes)) a c.workers 1).bind fun r1 =>
 some ((r1.1.1,()),())
noncomputable abbrev aiB : Con SR1 := ⟨170,[.val 13,.sh sI_],[.sh sI_],fun x =>ahk x.1 x.2.1⟩
theorem ajJ : CO Tryz.prog aiB := aaC aaB Tryz.func170 [aeb] ⟨aea,trivial⟩ [] trivial (fun _ =>[]) [] fun x =>by kernel_rfl
noncomputable def ajI (c : Cfg) (a : Int) : Option ((Int × Unit) × (Unit)) :=
 (ahS c a 2).bind fun r1 =>
 some ((r1.1.1,()),())
noncomputable abbrev akA : Con SR1 := ⟨175,[.val 13,.sh sI_],[.sh sI_],fun x =>ajI x.1 x.2.1⟩
theorem alW : CO Tryz.prog akA := aaC aaB Tryz.func175 [afw] ⟨ae4,trivial⟩ [] trivial (fun _ =>[]) [] fun x =>by kernel_rfl
noncomputable def adE (a : Int) : Option ((Int × Unit) × (Unit)) :=
 (lpF (σ := Int × Int × Unit) (β := Int × Int × Unit) (fun self3 x1 =>
  if 0 < x1.1 then
   self3 (wi (x1.1 - 1),wu (x1.2.1 * 2),())
  else
  some (x1.1,x1.2.1,())
 ) 18446744073709551616 (a,1,())).bind fun z2 =>
 some ((z2.2.1,()),())
noncomputable abbrev ae9 : Con SR1 := ⟨154,[.sh sI_],[.sh sU_],fun x =>adE x.1⟩
theorem afz : CO Tryz.prog ae9 := aaC aaB Tryz.func154 [] trivial [] trivial (fun _ =>[]) [(2,.loop [.rg 0 sI_,.rg 3 sU_] 18446744073709551616 0)] fun x =>by kernel_rfl
noncomputable def al0 (a : Int) (b : Int) : Option ((Bool × Unit) × (Unit)) :=
 if 0 ≤ b then
  if b < 64 then
   (adE b).bind fun r1 =>
   if r1.1.1 ≠ 0 then
   some ((decide ((Int.tmod (wu (Int.tdiv a r1.1.1)) 2) = 1),()),())
   else none
  else
  some ((false,()),())
 else
 some ((false,()),())
noncomputable abbrev akE : Con SR1 := ⟨156,[.sh sU_,.sh sI_],[.sh .b],fun x =>al0 x.1 x.2.1⟩
theorem akD : CO Tryz.prog akE := aaC aaB Tryz.func156 [ae9] ⟨afz,trivial⟩ [] trivial (fun _ =>[]) [] fun x =>by kernel_rfl
noncomputable def aoq (a : Int) (b : Int) (c : Int) : Option ((Int × Bool × Unit) × (Unit)) :=
 if a < 0 then
  some ((0,false,()),())
 else
 if 16777215 < a then
  some ((0,false,()),())
 else
 if b < 0 then
  some ((0,false,()),())
 else
 if 16777215 < b then
  some ((0,false,()),())
 else
 if c < 0 then
  some ((0,false,()),())
 else
 if 65535 < c then
  some ((0,false,()),())
 else
 (adE 24).bind fun r1 =>
 (adE 16).bind fun r2 =>
 some ((wu ((wu ((wu ((wu ((wu (a)) * r1.1.1)) + (wu (b)))) * r2.1.1)) + (wu (c))),true,()),())
noncomputable abbrev aop : Con SR1 := ⟨157,[.sh sI_,.sh sI_,.sh sI_],[.sh sU_,.sh .b],fun x =>aoq x.1 x.2.1 x.2.2.1⟩
theorem aq9 : CO Tryz.prog aop := aaC aaB Tryz.func157 [ae9] ⟨afz,trivial⟩ [] trivial (fun _ =>[]) [] fun x =>by kernel_rfl
noncomputable def aid (a : Int) : Option ((Int × Int × Int × Unit) × (Unit)) :=
 (adE 40).bind fun r1 =>
 if r1.1.1 ≠ 0 then
  (adE 16).bind fun r2 =>
  if r2.1.1 ≠ 0 then
   (adE 24).bind fun r3 =>
   if r3.1.1 ≠ 0 then
   (adE 16).bind fun r4 =>
   if r4.1.1 ≠ 0 then
   some ((wi (wu (Int.tdiv a r1.1.1)),wi ((Int.tmod (wu (Int.tdiv a r2.1.1)) r3.1.1)),wi ((Int.tmod a r4.1.1)),()),())
   else none
   else none
  else none
 else none
noncomputable abbrev ajN : Con SR1 := ⟨160,[.sh sU_],[.sh sI_,.sh sI_,.sh sI_],fun x =>aid x.1⟩
theorem anf : CO Tryz.prog ajN := aaC aaB Tryz.func160 [ae9] ⟨afz,trivial⟩ [] trivial (fun _ =>[]) [] fun x =>by kernel_rfl
noncomputable def agI (a : Int) : Option ((Int × Unit) × (Unit)) :=
 if a < 0 then
  some ((0,()),())
 else
 if 63 < a then
  some ((0,()),())
 else
 (adE a).bind fun r1 =>
 some ((r1.1.1,()),())
noncomputable abbrev agH : Con SR1 := ⟨111,[.sh sI_],[.sh sU_],fun x =>agI x.1⟩
theorem agG : CO Tryz.prog agH := aaC aaB Tryz.func111 [ae9] ⟨afz,trivial⟩ [] trivial (fun _ =>[]) [] fun x =>by kernel_rfl
noncomputable def ahT (a : Int) : Option ((Int × Unit) × (Unit)) :=
 (lpF (σ := Int × Unit) (β := (Int × Unit) ⊕ ((Int × Unit) × (Unit))) (fun self3 x1 =>
  if 0 ≤ x1.1 then
   (al0 a x1.1).bind fun r4 =>
   if r4.1.1 = true then
   Option.map Sum.inr (
   some ((x1.1,()),())
   )
   else
   self3 (wi (x1.1 - 1),())
  else
  some (Sum.inl (x1.1,()))
 ) 18446744073709551616 (63,())).bind fun z2 =>match z2 with
 | .inr o5 =>some o5
 | .inl z2 =>
 some (((-1),()),())
noncomputable abbrev akB : Con SR1 := ⟨115,[.sh sU_],[.sh sI_],fun x =>ahT x.1⟩
theorem alY : CO Tryz.prog akB := aaC aaB Tryz.func115 [akE] ⟨akD,trivial⟩ [] trivial (fun _ =>[]) [(2,.loopR [.rg 3 sI_] 18446744073709551616 0)] fun x =>by kernel_rfl
noncomputable def atI (a : Int) (b : Int) : Option ((Int × Unit) × (Unit)) :=
 (lpF (σ := Int × Int × Unit) (β := (Int × Int × Unit) ⊕ ((Int × Unit) × (Unit))) (fun self3 x1 =>
  if x1.2.1 < 64 then
   (al0 a x1.2.1).bind fun r4 =>
   if (!r4.1.1) = true then
   self3 (x1.1,wi (x1.2.1 + 1),())
   else
   if x1.1 = 0 then
   Option.map Sum.inr (
   some ((x1.2.1,()),())
   )
   else
   self3 (wi (x1.1 - 1),wi (x1.2.1 + 1),())
  else
  some (Sum.inl (x1.1,x1.2.1,()))
 ) 18446744073709551616 (b,0,())).bind fun z2 =>match z2 with
 | .inr o5 =>some o5
 | .inl z2 =>
 some (((-1),()),())
noncomputable abbrev ara : Con SR1 := ⟨183,[.sh sU_,.sh sI_],[.sh sI_],fun x =>atI x.1 x.2.1⟩
theorem atH : CO Tryz.prog ara := aaC aaB Tryz.func183 [akE] ⟨akD,trivial⟩ [] trivial (fun _ =>[]) [(2,.loopR [.rg 1 sI_,.rg 5 sI_] 18446744073709551616 0)] fun x =>by kernel_rfl
noncomputable def atK (a : Int) : Option ((Int × Unit) × (Unit)) :=
 (atI a 0).bind fun r1 =>
 some ((r1.1.1,()),())
noncomputable abbrev arb : Con SR1 := ⟨172,[.sh sU_],[.sh sI_],fun x =>atK x.1⟩
theorem atJ : CO Tryz.prog arb := aaC aaB Tryz.func172 [ara] ⟨atH,trivial⟩ [] trivial (fun _ =>[]) [] fun x =>by kernel_rfl
noncomputable def akC (a : Int) (b : Int) (c : Int) : Option ((Int × Unit) × (Unit)) :=
 if b < 1 then
  some ((0,()),())
 else
 if 64 < b then
  some ((0,()),())
 else
 if a < 0 then
  some ((0,()),())
 else
 if b ≤ a then
  some ((0,()),())
 else
 if c < 1 then
  some ((0,()),())
 else
 if 8 < c then
  some ((0,()),())
 else
 if b ≠ 0 then
  some ((wi (Int.tdiv (wi (a * c)) b),()),())
 else none
noncomputable abbrev alZ : Con SR1 := ⟨171,[.sh sI_,.sh sI_,.sh sI_],[.sh sI_],fun x =>akC x.1 x.2.1 x.2.2.1⟩
theorem apF : CO Tryz.prog alZ := aaC aaB Tryz.func171 [] trivial [] trivial (fun _ =>[]) [] fun x =>by kernel_rfl
end
end Go.Proofs.YtkmkhldmflebkaaGreat
