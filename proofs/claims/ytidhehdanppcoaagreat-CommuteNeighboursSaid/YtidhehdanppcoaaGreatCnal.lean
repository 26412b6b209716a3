/- The program's machines,said plainly: their states,and what a step does. No program occurs here but its numbers. The program's machines do what was said plainly,1: memory,cells,words,the machines that run none inside. The program's machines do what was said plainly,2: probing. What a step of the program's machines leaves of the environment: at most one access,few events,records of the same number. The program's machines do what was said plainly,3: the machines that run others inside. The program's machines do what was said plainly: a sweep. The program's machines do what was said plainly,4: a drain. -/
import Derived.Test.YtidhehdanppcoaaGreatCnak
set_option linter.all false
namespace Go.Proofs.YtidhehdanppcoaaGreat
section
open Go Go.RowKit
inductive Rs (σ:Type) where
 | go (s:σ)
 | fin (c v:Int)
inductive OPushS where
 | l1 | l2 (b:Int) | l3 (b:Int) | l4 (b:Int)
inductive OPopS where
 | l1 | l2 (b:Int) | l3 (b t:Int) | l4 (b t:Int) | l5 (b t:Int) | l6 (b t:Int) | l7 (b t:Int) | l8 (b t:Int) | l9 (b t:Int)
inductive StealS where
 | l1 | l2 (t:Int) | l3 (t:Int) | l4 (t v:Int)
inductive ResetS where
 | l1 | l2 | l3 (b:Int) | l4 (b:Int)
inductive PublishS where
 | l1 | l2 | l3
inductive InsertS where
 | l1 | l2 (n:Int) | l3 (n i k x:Int) | l4 (n i k x:Int) | l5 (n i k x:Int) | l6 (n i k x:Int)
inductive RemoveS where
 | l1 | l2 (n:Int) | l3 (n x:Int) | l4 (n x y:Int) | l5 (n i c x y z:Int) | l6 (n i c x y z:Int) | l7 (n i c x y z:Int) | l8 (n i c x y z:Int)
inductive WakeS where
 | l1 (j:Int) | l2 (j v:Int) | l3 (j v:Int)
inductive SleepS where
 | l1 | l2 (ep:Int) | l3 (ep:Int) | l4 (ep v:Int) | l5 (ep v s:Int) | l6 (ep v s:Int) | l7 (ep v s:Int)
inductive ProbeS where
 | new | run (start next:Int) (bm:B16)
inductive RaiseS where
 | l1 (q:Int) | l2 (q:Int)
inductive LPushS where
 | new | push (s:OPushS) | set
inductive LPopS where
 | l1 (v:Int) | l2 (v:Int) (s:OPopS) | l3 (v:Int) (s:ResetS)
inductive WalkS where
 | l1 (t:Int) | raise (t:Int) (s:RaiseS) | l2 (t:Int) | push (t:Int) (s:LPushS) | l4 (t:Int)
inductive EnterS where
 | l1 | l2 | l3 | l4 (v:Int) (s:LPushS)
inductive SweepS where
 | l1 | l2 | l3 | l4 (q:Int) | l5 (q:Int) | l6 (q:Int) (s:LPushS)
inductive TakeS where
 | pop (s:LPopS) | claim (t:Int)
inductive DrainC where
 | l1 | l2 | l3 (s:RemoveS) | l4 | l5 (s:LPushS) | l6 | l7 (s:WakeS)
structure DrainS where
 x:Int
 direct:Bool
 p:Int
 last:Int
 count:Int
 c:DrainC
inductive RunC where
 | next | s2 (s:PublishS) | s3 (s:LPushS) | s4 (s:WakeS) | s5 | j2 | j3 | j4 | j5 (s:WalkS) | j6 | j7 | f2 | f3 | f4 (s:EnterS) | f5 (v:Int) (s:WakeS) | f6
structure RunS where
 stack:List Int
 id:Int
 child:Int
 level:Int
 waiter:Int
 c:RunC
inductive WorkC where
 | top | t1 (t:Int) (s:SweepS) | t2 (s:TakeS) | t3 (s:DrainS) | t4 (s:ProbeS) | t5 (s:StealS) | t6 | t7 (s:RunS) | t8 (s:SleepS) | t9 (s:ResetS)
structure WorkS where
 cursor:Int
 victim:Int
 level:Int
 x:Int
 c:WorkC
inductive ClieC where
 | n1 | a1 | n2 | n3 | n4 | n5 | n6 | a6 (s:InsertS) | n7 | n8 | n9 | a9 (s:WakeS)
structure ClieS where
 i:Int
 id:Int
 acc:Bool
 c:ClieC
def MemV.gt (m:MemV) (a:Int):Int:=if 0≤a∧a<(m.cells.length:Int) then agR m.cells a else 0
def MemV.pt (m:MemV) (k a v:Int):MemV:=if 0≤a∧a<(m.cells.length:Int) then ⟨m.cells.set a.toNat v,⟨k,a,agR m.cells a,v⟩,wi (m.count+1)⟩ else m
def MemV.hit (m:MemV) (a o:Int):Bool:=decide ((0≤a∧a<(m.cells.length:Int))∧agR m.cells a=o)
def MemV.cas (m:MemV) (a o v:Int):MemV:=m.pt 3 a (if m.gt a=o then v else m.gt a)
abbrev EnvP.gt (e:EnvP) (a:Int):Int:=e.m.gt a
def EnvP.pt (e:EnvP) (k a v:Int):EnvP:={ e with m:=e.m.pt k a v }
def EnvP.lk (e:EnvP) (a:Int):EnvP:={ e with m:=e.m.pt 1 a (e.m.gt a) }
abbrev EnvP.hit (e:EnvP) (a o:Int):Bool:=e.m.hit a o
def EnvP.cas (e:EnvP) (a o v:Int):EnvP:={ e with m:=e.m.cas a o v }
def EnvP.em (e:EnvP) (k w t o l:Int):EnvP:={ e with evs:=e.evs++[⟨k,w,t,o,l⟩] }
def EnvP.rc (e:EnvP) (t:Int):RecP:=aab e.recs t
def EnvP.pr (e:EnvP) (t:Int) (r:RecP):EnvP:={ e with recs:=e.recs.set t.toNat r }
def IsT (e:EnvP) (t:Int):Prop:=0≤t∧t<e.c.tasks
instance (e : EnvP) (t : Int) : Decidable (IsT e t) := inferInstanceAs (Decidable (_ ∧ _))
def aut (e:EnvP) (t v:Int):Prop:=(0≤t∧t<e.c.tasks)∧0≤v∧v<e.c.levels
instance (e : EnvP) (t v : Int) : Decidable (aut e t v) := inferInstanceAs (Decidable (_ ∧ _))
def szP (b t:Int):Int:=wi (wu (b-t))
def ah2 (q:QV) (i:Int):Int:=if q.cap<1 then -1 else wi (q.ring+wi (Int.tmod i (wu q.cap)))
def aC5 (n:Int):Int:=if n<0 then 0 else if 63<n then 0 else wu (1*2 ^ min (wu n).toNat IntKind.u64.bits)
def att (a n:Int):Int:=if n<1 then 0 else if Int.tmod a n<0 then wi (Int.tmod a n+n) else Int.tmod a n
def atP (i n a w:Int):Int:=if i<0 then -1 else if n≤i then -1 else wi (a+wi (i*w))
def adx (l:LayV) (t f:Int):Int:=atP t l.tasks (wi (l.table+f)) 5
def aaP (l:LayV) (t:Int):Int:=adx l t 0
def ab2 (l:LayV) (t:Int):Int:=adx l t 1
def ac4 (l:LayV) (t:Int):Int:=adx l t 2
def aeS (l:LayV) (t:Int):Int:=adx l t 3
def amz (l:LayV) (t:Int):Int:=adx l t 4
def afL (l:LayV) (i:Int):Int:=atP i l.heap 4 1
def agK (l:LayV) (w:Int):Int:=atP w l.workers l.epochs 1
def aiH (l:LayV) (k:Int):Int:=atP k l.classes l.sleepers 1
def aaI (l:LayV) (w:Int):Int:=atP w l.workers l.bitmaps 1
def aav (l:LayV) (w v:Int):QV :=
 if atP w l.workers l.queues (wi (l.levels*wi (2+l.deque)))<0 then ⟨-1,-1,-1,0⟩
 else if atP v l.levels (atP w l.workers l.queues (wi (l.levels*wi (2+l.deque)))) (wi (2+l.deque))<0 then ⟨-1,-1,-1,0⟩
 else ⟨atP v l.levels (atP w l.workers l.queues (wi (l.levels*wi (2+l.deque)))) (wi (2+l.deque)),wi (atP v l.levels (atP w l.workers l.queues (wi (l.levels*wi (2+l.deque)))) (wi (2+l.deque))+1),wi (atP v l.levels (atP w l.workers l.queues (wi (l.levels*wi (2+l.deque)))) (wi (2+l.deque))+2),l.deque⟩
def aqG (d a t:Int):Int×Bool :=
 if d<0 then (0,false) else if 16777215<d then (0,false) else if a<0 then (0,false) else if 16777215<a then (0,false) else if t<0 then (0,false) else if 65535<t then (0,false)
 else (orU (orU (wu ((wu (d))*2 ^ min (40:Int).toNat IntKind.u64.bits)) (wu ((wu (a))*2 ^ min (16:Int).toNat IntKind.u64.bits))) (wu (t)),true)
def aCn (l n c:Int):Int:=if n<1 then 0 else if 64<n then 0 else if c<1 then 0 else if 8<c then 0 else if l<0 then 0 else if n≤l then 0 else wi (Int.tdiv (wi (l*c)) n)
def avA (k:Int):Int:=wi (aoG k 65535)
noncomputable def atC (x:Int):Int:=match ah1 x with
 | some o =>o.1.1
 | none =>0
def avL (k:ClkV) (n:Int):Int:=att k.draw n
def ae3 (q:QV) (v:Int) (e:EnvP):OPushS→Rs OPushS×EnvP
 | .l1 =>(.go (.l2 (e.gt q.bottom)),e.lk q.bottom)
 | .l2 b =>(if q.cap≤szP b (e.gt q.top) then .fin 3 0 else .go (.l3 b),e.lk q.top)
 | .l3 b =>(.go (.l4 b),e.pt 2 (ah2 q b) (wu v))
 | .l4 b =>(.fin 0 0,e.pt 2 q.bottom (wu (b+1)))
def al0 (q:QV) (e:EnvP):OPopS→Rs OPopS×EnvP
 | .l1 =>(.go (.l2 (e.gt q.bottom)),e.lk q.bottom)
 | .l2 b =>(if szP b (e.gt q.top)≤0 then .fin 2 0 else .go (.l3 b (e.gt q.top)),e.lk q.top)
 | .l3 b t =>(.go (.l4 b t),e.pt 2 q.bottom (wu (b-1)))
 | .l4 b _ =>(if 0<szP (wu (b-1)) (e.gt q.top) then .go (.l5 b (e.gt q.top)) else if szP (wu (b-1)) (e.gt q.top)=0 then .go (.l6 b (e.gt q.top)) else .go (.l9 b (e.gt q.top)),e.lk q.top)
 | .l5 b _ =>(.fin 1 (wi (e.gt (ah2 q (wu (b-1))))),e.lk (ah2 q (wu (b-1))))
 | .l6 b t =>(if e.hit q.top t=true then .go (.l7 b t) else .go (.l9 b t),e.cas q.top t (wu (t+1)))
 | .l7 b t =>(.go (.l8 b t),e.pt 2 q.bottom b)
 | .l8 b _ =>(.fin 1 (wi (e.gt (ah2 q (wu (b-1))))),e.lk (ah2 q (wu (b-1))))
 | .l9 b _ =>(.fin 2 0,e.pt 2 q.bottom b)
def ahE (q:QV) (e:EnvP):StealS→Rs StealS×EnvP
 | .l1 =>(.go (.l2 (e.gt q.top)),e.lk q.top)
 | .l2 t =>(if szP (e.gt q.bottom) t≤0 then .fin 2 0 else .go (.l3 t),e.lk q.bottom)
 | .l3 t =>(.go (.l4 t (e.gt (ah2 q t))),e.lk (ah2 q t))
 | .l4 t v =>(if e.hit q.top t=true then .fin 1 (wi v) else .fin 4 0,e.cas q.top t (wu (t+1)))
def afw (a b:Int) (q:QV) (e:EnvP):ResetS→Rs ResetS×EnvP
 | .l1 =>(.go .l2,e.pt 5 a (aoG (e.gt a) (aEY (aC5 b))))
 | .l2 =>(.go (.l3 (e.gt q.bottom)),e.lk q.bottom)
 | .l3 x =>(if szP x (e.gt q.top)≤0 then .fin 2 0 else .go (.l4 x),e.lk q.top)
 | .l4 _ =>(.fin 1 0,e.pt 4 a (orU (e.gt a) (aC5 b)))
def aDC (a b:Int) (e:EnvP):EnvP:=e.pt 4 a (orU (e.gt a) (aC5 b))
def ab6 (e:EnvP):EnvP:=e.pt 6 0 (wu (e.gt 0+1))
def afR (t v:Int) (e:EnvP) (s:PublishS):Rs PublishS×EnvP :=
 if ¬ IsT e t then (.fin 4 0,e)
 else match s with
  | .l1 =>(.go .l2,e.pt 2 (ab2 e.l t) (wu v))
  | .l2 =>(.go .l3,e.pt 2 (amz e.l t) (wu e.k.now))
  | .l3 =>(.fin 0 0,e.pt 2 (aaP e.l t) 1)
def adk (t:Int) (e:EnvP):Bool:=e.hit (aaP e.l t) 1
def aeU (w t:Int) (e:EnvP):EnvP :=
 if adk t e=true then
  if (e.rc t).started=true then (e.cas (aaP e.l t) 1 2).em 9 w t 0 0 else ((e.cas (aaP e.l t) 1 2).pr t { e.rc t with started:=true }).em 5 w t 0 0
 else (e.cas (aaP e.l t) 1 2).em 15 w t 0 0
def arP (o:Int) (e:EnvP):EnvP:=e.cas 1 0 (wu (wi (o+1)))
def atG (e:EnvP):EnvP:=e.pt 2 1 0
def au9 (n i k x:Int):InsertS:=if 0<i then .l3 n i k x else .l5 n i k x
abbrev upP (i:Int):Int:=wi (Int.tdiv (wi (i-1)) 2)
def acf (d t:Int) (e:EnvP):InsertS→Rs InsertS×EnvP
 | .l1 =>(if e.c.heap≤wi (e.gt 2) then .fin 3 0 else .go (.l2 (wi (e.gt 2))),e.lk 2)
 | .l2 n =>(if (aqG d (wi (e.gt 3)) t).2=true then .go (au9 n n (aqG d (wi (e.gt 3)) t).1 0) else .fin 4 0,e.pt 6 3 (wu (e.gt 3+1)))
 | .l3 n i k _ =>(if k<e.gt (afL e.l (upP i)) then .go (.l4 n i k (e.gt (afL e.l (upP i)))) else .go (.l5 n i k (e.gt (afL e.l (upP i)))),e.lk (afL e.l (upP i)))
 | .l4 n i k x =>(.go (au9 n (upP i) k x),e.pt 2 (afL e.l i) x)
 | .l5 n i k x =>(.go (.l6 n i k x),e.pt 2 (afL e.l i) k)
 | .l6 n _ _ _ =>(.fin 0 0,e.pt 2 2 (wu (wi (n+1))))
def avV (n i c x y z:Int):RemoveS:=if wi (wi (2*i)+1)<wi (n-1) then .l5 n i c x y z else .l8 n i c x y z
def azH (n i c x y z:Int):RemoveS:=if z<y then .l7 n i c x y z else .l8 n i c x y z
def acP (w:Int) (e:EnvP):RemoveS→Rs RemoveS×EnvP
 | .l1 =>(if wi (e.gt 2)≤0 then .fin 2 0 else .go (.l2 (wi (e.gt 2))),e.lk 2)
 | .l2 n =>(.go (.l3 n (e.gt (afL e.l 0))),e.lk (afL e.l 0))
 | .l3 n x =>(.go (.l4 n x (e.gt (afL e.l (wi (n-1))))),e.lk (afL e.l (wi (n-1))))
 | .l4 n x y =>(if n=1 then .fin 1 (avA x) else .go (avV n 0 0 x y 0),(e.pt 2 2 (wu (wi (n-1)))).em 13 w (avA x) 0 0)
 | .l5 n i _ x y _ =>(if wi (wi (wi (2*i)+1)+1)<wi (n-1) then .go (.l6 n i (wi (wi (2*i)+1)) x y (e.gt (afL e.l (wi (wi (2*i)+1))))) else .go (azH n i (wi (wi (2*i)+1)) x y (e.gt (afL e.l (wi (wi (2*i)+1))))),e.lk (afL e.l (wi (wi (2*i)+1))))
 | .l6 n i c x y z =>(if e.gt (afL e.l (wi (wi (2*i)+2)))<z then .go (azH n i (wi (wi (2*i)+2)) x y (e.gt (afL e.l (wi (wi (2*i)+2))))) else .go (azH n i c x y z),e.lk (afL e.l (wi (wi (2*i)+2))))
 | .l7 n i c x y z =>(.go (avV n c c x y z),e.pt 2 (afL e.l i) z)
 | .l8 _ i _ x y _ =>(.fin 1 (avA x),e.pt 2 (afL e.l i) y)
def ag6 (w:Int) (e:EnvP):Int:=if e.c.classes<1 then -1 else aiH e.l (att w e.c.classes)
def adN (w:Int) (e:EnvP):SleepS→Rs SleepS×EnvP
 | .l1 =>(.go (.l2 (e.gt (agK e.l w))),e.lk (agK e.l w))
 | .l2 ep =>(.go (.l3 ep),e.pt 4 (ag6 w e) (orU (e.gt (ag6 w e)) (aC5 w)))
 | .l3 ep =>(if e.gt 2≠0 then .go (.l7 ep 0 0) else .go (.l4 ep 0),e.lk 2)
 | .l4 ep v =>
  if e.gt (aaI e.l v)≠0 then (.go (.l7 ep v 0),e.lk (aaI e.l v))
  else if e.c.workers≤wi (v+1) then (.go (.l5 ep (wi (v+1)) e.k.now),(e.lk (aaI e.l v)).em 16 w 0 0 0)
  else (.go (.l4 ep (wi (v+1))),e.lk (aaI e.l v))
 | .l5 ep v s =>
  if e.gt (agK e.l w)≠ep then (.go (.l6 ep v s),(e.lk (agK e.l w)).em 17 w 0 1 0)
  else if e.c.patience≤wi (e.k.now-s) then (.go (.l6 ep v s),(e.lk (agK e.l w)).em 17 w 0 2 0)
  else (.go (.l5 ep v s),e.lk (agK e.l w))
 | .l6 _ _ _ =>(.fin 1 0,e.pt 5 (ag6 w e) (aoG (e.gt (ag6 w e)) (aEY (aC5 w))))
 | .l7 _ _ _ =>(.fin 5 0,e.pt 5 (ag6 w e) (aoG (e.gt (ag6 w e)) (aEY (aC5 w))))
def alq (v j:Int) (e:EnvP):Int:=if e.c.classes<1 then -1 else aiH e.l (att (wi (aCn v e.c.levels e.c.classes+j)) e.c.classes)
noncomputable def aLN [Tb] (x:Int):Int:=if x=0 then -1 else tzV x
noncomputable def aez [Tb] (w v:Int) (e:EnvP):WakeS→Rs WakeS×EnvP
 | .l1 j =>(if e.gt (alq v j e)≠0 then .go (.l2 j (aLN (e.gt (alq v j e)))) else if e.c.classes≤wi (j+1) then .fin 2 0 else .go (.l1 (wi (j+1))),e.lk (alq v j e))
 | .l2 j x =>(if aoG (e.gt (alq v j e)) (aC5 x)=0 then .fin 4 0 else .go (.l3 j x),e.pt 5 (alq v j e) (aoG (e.gt (alq v j e)) (aEY (aC5 x))))
 | .l3 _ x =>(.fin 1 x,(e.pt 6 (agK e.l x) (wu (e.gt (agK e.l x)+1))).em 18 w 0 x 0)
def aeT (w t v:Int) (e:EnvP) (s:RaiseS):Rs RaiseS×EnvP :=
 if ¬ aut e t v then (.fin 4 0,e)
 else match s with
  | .l1 _ =>(if v≤wi (e.gt (ab2 e.l t)) then .fin 0 0 else .go (.l2 (e.gt (ab2 e.l t))),e.lk (ab2 e.l t))
  | .l2 q =>if e.hit (ab2 e.l t) q=true then (.fin 1 0,(e.cas (ab2 e.l t) q (wu v)).em 11 w t 0 v) else (.go (.l1 q),e.cas (ab2 e.l t) q (wu v))
def B16.at (b:B16) (i:Int):Int :=
 if i=15 then b.b15 else if i=14 then b.b14 else if i=13 then b.b13 else if i=12 then b.b12 else if i=11 then b.b11 else if i=10 then b.b10 else if i=9 then b.b9 else if i=8 then b.b8
 else if i=7 then b.b7 else if i=6 then b.b6 else if i=5 then b.b5 else if i=4 then b.b4 else if i=3 then b.b3 else if i=2 then b.b2 else if i=1 then b.b1 else b.b0
def B16.put (b:B16) (i v:Int):B16 :=
 if i=15 then { b with b15:=v } else if i=14 then { b with b14:=v } else if i=13 then { b with b13:=v } else if i=12 then { b with b12:=v } else if i=11 then { b with b11:=v } else if i=10 then { b with b10:=v }
 else if i=9 then { b with b9:=v } else if i=8 then { b with b8:=v } else if i=7 then { b with b7:=v } else if i=6 then { b with b6:=v } else if i=5 then { b with b5:=v } else if i=4 then { b with b4:=v }
 else if i=3 then { b with b3:=v } else if i=2 then { b with b2:=v } else if i=1 then { b with b1:=v } else { b with b0:=v }
def aKY:B16:=⟨0,0,0,0,0,0,0,0,0,0,0,0,0,0,0,0⟩
def abJ (e:EnvP):Int:=if 16<e.c.workers then 16 else e.c.workers
def alv (w n s i:Int):Int:=if i<n∧Int.tmod (wi (s+i)) n=w then wi (i+1) else i
noncomputable def azy (w n s:Int) (bm:B16):Nat→Int→Int×Int→Int×Int
 | 0,_,r =>r
 | k+1,i,r =>azy w n s bm k (i+1) (if Int.tmod (wi (s+i)) n≠w∧r.2<atC (bm.at (Int.tmod (wi (s+i)) n)) then (Int.tmod (wi (s+i)) n,atC (bm.at (Int.tmod (wi (s+i)) n))) else r)
noncomputable def arx (w n s:Int) (bm:B16):Int×Int:=azy w n (att s n) bm n.toNat 0 (-1,-1)
noncomputable def ag8 (w:Int) (e:EnvP) (s i:Int) (bm:B16):Rs ProbeS×EnvP :=
 if abJ e≤alv w (abJ e) s i then (.fin 2 0,e)
 else
  let v:=Int.tmod (wi (s+alv w (abJ e) s i)) (abJ e)
  let bm':=bm.put v (e.gt (aaI e.l v))
  let i':=alv w (abJ e) s (wi (alv w (abJ e) s i+1))
  if abJ e≤i' then
   (if (arx w (abJ e) s bm').1<0 then .fin 2 0 else .fin 1 (wi (wi ((arx w (abJ e) s bm').1*64)+(arx w (abJ e) s bm').2)),e.lk (aaI e.l v))
  else (.go (.run s i' bm'),e.lk (aaI e.l v))
noncomputable def ajR (w:Int) (e:EnvP):ProbeS→Rs ProbeS×EnvP
 | .new =>ag8 w e (avL e.k (abJ e)) 0 aKY
 | .run s i bm =>ag8 w e s i bm
def abO (w v x:Int) (e:EnvP):LPushS→Rs LPushS×EnvP
 | .new =>match ae3 (aav e.l w v) x e .l1 with
  | (.go s,e') =>(.go (.push s),e')
  | (.fin c _,e') =>(if c=3 then .fin 3 0 else .go .set,e')
 | .push s =>match ae3 (aav e.l w v) x e s with
  | (.go s,e') =>(.go (.push s),e')
  | (.fin c _,e') =>(if c=3 then .fin 3 0 else .go .set,e')
 | .set =>(.fin 0 0,aDC (aaI e.l w) v e)
noncomputable def agD (w:Int) (e:EnvP):LPopS→Rs LPopS×EnvP
 | .l1 _ =>(if e.gt (aaI e.l w)=0 then .fin 2 0 else .go (.l2 (atC (e.gt (aaI e.l w))) .l1),e.lk (aaI e.l w))
 | .l2 v s =>match al0 (aav e.l w v) e s with
  | (.go s,e') =>(.go (.l2 v s),e')
  | (.fin c x,e') =>(if c=1 then .fin 1 x else .go (.l3 v .l1),e')
 | .l3 v s =>match afw (aaI e.l w) v (aav e.l w v) e s with
  | (.go s,e') =>(.go (.l3 v s),e')
  | (.fin _ _,e') =>(.go (.l1 v),e')
def aeL (w v:Int) (e:EnvP):WalkS→Rs WalkS×EnvP
 | .l1 t =>if ¬ aut e t v then (.fin 4 0,e) else match aeT w t v e (.l1 0) with
  | (.go s,e') =>(.go (.raise t s),e')
  | (.fin c _,e') =>(.go (if c=1 then .l2 t else .l4 t),e')
 | .raise t s =>match aeT w t v e s with
  | (.go s,e') =>(.go (.raise t s),e')
  | (.fin c _,e') =>(.go (if c=1 then .l2 t else .l4 t),e')
 | .l2 t =>(.go (if e.gt (aaP e.l t)=1 then .push t .new else .l4 t),e.lk (aaP e.l t))
 | .push t s =>match abO w v t e s with
  | (.go s,e') =>(.go (.push t s),e')
  | (.fin c _,e') =>(.go (.l4 t),if c=3 then e'.em 19 w t 0 v else e')
 | .l4 t =>(if e.gt (aeS e.l t)=0 then .fin 0 0 else .go (.l1 (wi (wu (e.gt (aeS e.l t)-1)))),e.lk (aeS e.l t))
def adX (w t:Int) (e:EnvP):EnterS→Rs EnterS×EnvP
 | .l1 =>if ¬ IsT e t then (.fin 4 0,e) else (.go .l2,e.pt 2 (amz e.l t) (wu e.k.now))
 | .l2 =>(.go .l3,e.pt 2 (aaP e.l t) 1)
 | .l3 =>(.go (.l4 (wi (e.gt (ab2 e.l t))) .new),e.lk (ab2 e.l t))
 | .l4 v s =>match abO w v t e s with
  | (.go s,e') =>(.go (.l4 v s),e')
  | (.fin c _,e') =>(.fin c v,e')
def abh (w t:Int) (e:EnvP):SweepS→Rs SweepS×EnvP
 | .l1 =>if ¬ IsT e t∨e.c.age=0 then (.fin 0 0,e) else (if e.gt (aaP e.l t)=1 then .go .l2 else .fin 0 0,e.lk (aaP e.l t))
 | .l2 =>(if wi (e.k.now-wi (e.gt (amz e.l t)))<e.c.age then .fin 0 0 else .go .l3,e.lk (amz e.l t))
 | .l3 =>(if wi (e.c.levels-1)≤wi (e.gt (ab2 e.l t)) then .fin 0 0 else .go (.l4 (e.gt (ab2 e.l t))),e.lk (ab2 e.l t))
 | .l4 q =>if e.hit (ab2 e.l t) q=true then (.go (.l5 q),(e.cas (ab2 e.l t) q (wu (q+1))).em 12 w t 0 (wi (wi q+1))) else (.fin 4 0,e.cas (ab2 e.l t) q (wu (q+1)))
 | .l5 q =>(.go (.l6 q .new),e.pt 2 (amz e.l t) (wu e.k.now))
 | .l6 q s =>match abO w (wi (wi q+1)) t e s with
  | (.go s,e') =>(.go (.l6 q s),e')
  | (.fin c _,e') =>(.fin 1 0,if c=3 then e'.em 19 w t 0 (wi (wi q+1)) else e')
noncomputable def akg (w:Int) (e:EnvP):TakeS→Rs TakeS×EnvP
 | .pop s =>match agD w e s with
  | (.go s,e') =>(.go (.pop s),e')
  | (.fin c x,e') =>(if c=2 then .fin 2 0 else .go (.claim x),e')
 | .claim t =>(if adk t e=true then .fin 1 t else .go (.pop (.l1 0)),aeU w t e)
def anq (s:DrainS):Rs DrainS:=if s.direct=true then .fin 1 s.x else if 0<s.count then .fin 0 s.count else .fin 2 0
noncomputable def aa8 [Tb] (w:Int) (e:EnvP) (d:DrainS):Rs DrainS×EnvP :=
 match d.c with
 | .l1 =>(if wi (e.gt 2)≤0 then .fin 2 0 else .go { d with c:=.l2 },e.lk 2)
 | .l2 =>(if e.hit 1 0=true then .go { d with c:=.l3 .l1 } else .fin 5 0,arP w e)
 | .l3 s =>match acP w e s with
  | (.go s,e') =>(.go { d with c:=.l3 s },e')
  | (.fin c x,e') =>(if c=2 then .go { d with c:=.l6 } else .go { d with x:=x,c:=.l4 },e')
 | .l4 =>(.go { d with p:=wi (e.gt (ab2 e.l d.x)),c:=.l5 .new },e.lk (ab2 e.l d.x))
 | .l5 s =>match abO w d.p d.x e s with
  | (.go s,e') =>(.go { d with c:=.l5 s },e')
  | (.fin c _,e') =>(if c=3 then .go { d with direct:=true,c:=.l6 } else if wi (d.count+1)<e.c.batch then .go { d with last:=d.p,count:=wi (d.count+1),c:=.l3 .l1 } else .go { d with last:=d.p,count:=wi (d.count+1),c:=.l6 },e')
 | .l6 =>(if 0<d.count then .go { d with c:=.l7 (.l1 0) } else anq d,atG e)
 | .l7 s =>match aez w d.last e s with
  | (.go s,e') =>(.go { d with c:=.l7 s },e')
  | (.fin _ _,e') =>(anq d,e')
def aaC (l:List Int):Int:=l.getLast?.getD 0
def aia (r:RunS) (e:EnvP):Rs RunS×EnvP:=(if r.stack.length=1 then .fin 0 0 else .go { r with stack:=r.stack.dropLast,c:=.next },e)
def atX (x:RecP) (i:Ins):RecP :=
 if wi ((if x.left=0 then i.a else x.left)-1)=0 then { x with left:=wi ((if x.left=0 then i.a else x.left)-1),pc:=wi (x.pc+1) } else { x with left:=wi ((if x.left=0 then i.a else x.left)-1) }
def EnvP.prog (e:EnvP) (x:RecP):List Ins:=if x.prog<0∨(e.c.progs.length:Int)≤x.prog then [] else atL [] e.c.progs x.prog
def ayz (p t:Int):RecP:=⟨p,t,0,0,-1,[],false⟩
def apz (w:Int) (e:EnvP) (r:RunS) (t:Int) (x:RecP) (p:List Ins):Rs RunS×EnvP :=
 if x.waiting ≠ -1 then (.go r,(e.pt 2 (aeS e.l t) 0).pr t { x with waiting := -1 })
 else if x.pc<0∨(p.length:Int)≤x.pc then (.go { r with c:=.f2 },e.pt 2 (aaP e.l t) 4)
 else if (acB p x.pc).op=0 then (.go r,e.pr t (atX x (acB p x.pc)))
 else if (acB p x.pc).op=1 then
  if IsT e (wi (e.gt 0)) then (.go { r with id:=wi (e.gt 0),level:=(acB p x.pc).b,c:=.s2 .l1 },((ab6 e).pr t { x with pc:=wi (x.pc+1),kids:=x.kids++[wi (e.gt 0)] }).pr (wi (e.gt 0)) (ayz (acB p x.pc).a t))
  else (.go r,((ab6 e).pr t { x with pc:=wi (x.pc+1),kids:=x.kids++[-1] }).em 4 w t 0 0)
 else if (acB p x.pc).a<0∨(x.kids.length:Int)≤(acB p x.pc).a∨acg x.kids (acB p x.pc).a=-1 then (.go r,e.pr t { x with pc:=wi (x.pc+1) })
 else (.go { r with child:=acg x.kids (acB p x.pc).a,c:=.j2 },(e.pt 2 (aeS e.l t) (wu (wi (acg x.kids (acB p x.pc).a+1)))).pr t { x with pc:=wi (x.pc+1),waiting:=acg x.kids (acB p x.pc).a })
noncomputable def aec [Tb] (w:Int) (e:EnvP) (r:RunS) (t:Int):Rs RunS×EnvP :=
 match r.c with
 | .next =>apz w e r t (e.rc t) (e.prog (e.rc t))
 | .s2 s =>match afR r.id r.level e s with
  | (.go s,e') =>(.go { r with c:=.s2 s },e')
  | (.fin _ _,e') =>(.go { r with c:=.s3 .new },e'.em 3 w r.id t r.level)
 | .s3 s =>match abO w r.level r.id e s with
  | (.go s,e') =>(.go { r with c:=.s3 s },e')
  | (.fin c _,e') =>(.go { r with c:=if c=3 then .s5 else .s4 (.l1 0) },e')
 | .s4 s =>match aez w r.level e s with
  | (.go s,e') =>(.go { r with c:=.s4 s },e')
  | (.fin _ _,e') =>(.go { r with c:=.next },e')
 | .s5 =>(.go (if adk r.id e=true then { r with stack:=r.stack++[r.id],c:=.next } else { r with c:=.next }),aeU w r.id e)
 | .j2 =>(.go { r with c:=.j3 },e.pt 2 (aaP e.l t) 3)
 | .j3 =>if e.hit (ac4 e.l r.child) 0=true then (.go { r with c:=.j4 },(e.cas (ac4 e.l r.child) 0 (wu (wi (t+1)))).em 6 w t r.child 0) else (.go { r with c:=.j6 },e.cas (ac4 e.l r.child) 0 (wu (wi (t+1))))
 | .j4 =>(.go { r with level:=wi (e.gt (ab2 e.l t)),c:=.j5 (.l1 r.child) },e.lk (ab2 e.l t))
 | .j5 s =>match aeL w r.level e s with
  | (.go s,e') =>(.go { r with c:=.j5 s },e')
  | (.fin _ _,e') =>aia r (e'.em 7 w t 0 r.level)
 | .j6 =>(.go { r with c:=.j7 },e.pt 2 (aaP e.l t) 2)
 | .j7 =>(.go { r with c:=.next },((e.pt 2 (aeS e.l t) 0).pr t { e.rc t with waiting := -1 }).em 8 w t r.child 0)
 | .f2 =>if e.hit (ac4 e.l t) 0=true then aia r ((e.cas (ac4 e.l t) 0 4294967296).em 10 w t 0 0) else (.go { r with c:=.f3 },(e.cas (ac4 e.l t) 0 4294967296).em 10 w t 0 0)
 | .f3 =>if IsT e (wi (wi (e.gt (ac4 e.l t))-1)) then (.go { r with waiter:=wi (wi (e.gt (ac4 e.l t))-1),c:=.f4 .l1 },e.lk (ac4 e.l t)) else aia { r with waiter:=wi (wi (e.gt (ac4 e.l t))-1) } (e.lk (ac4 e.l t))
 | .f4 s =>match adX w r.waiter e s with
  | (.go s,e') =>(.go { r with c:=.f4 s },e')
  | (.fin c v,e') =>(.go { r with c:=if c=3 then .f6 else .f5 v (.l1 0) },e')
 | .f5 v s =>match aez w v e s with
  | (.go s,e') =>(.go { r with c:=.f5 v s },e')
  | (.fin _ _,e') =>aia r e'
 | .f6 =>if adk r.waiter e=true then (.go { r with stack:=r.stack.dropLast++[r.waiter],c:=.next },aeU w r.waiter e) else aia r (aeU w r.waiter e)
noncomputable def awb [Tb] (w:Int) (e:EnvP) (r:RunS):Rs RunS×EnvP:=if ¬ IsT e (aaC r.stack) then (.fin 4 0,e) else aec w e r (aaC r.stack)
def aGW (t:Int):RunS:=⟨[t],0,0,0,0,.next⟩
def aB8:DrainS:=⟨0,false,0,0,0,.l1⟩
def azo:TakeS:=.pop (.l1 0)
def abZ (w:Int) (e:EnvP) (k:WorkS):WorkC:=match k.c with
 | .top =>if e.c.age=0 then .t2 azo else .t1 (att (wi (att w e.c.tasks+k.cursor)) e.c.tasks) .l1
 | c =>c
def apE (e:EnvP):WorkC:=if e.c.workers=1 then .t8 .l1 else .t4 .new
noncomputable def abu [Tb] (w:Int) (e:EnvP) (k:WorkS):WorkS×EnvP :=
 match abZ w e k with
 | .top =>(k,e)
 | .t1 t s =>match abh w t e s with
  | (.go s,e') =>({ k with c:=.t1 t s },e')
  | (.fin _ _,e') =>({ k with cursor:=wi (k.cursor+1),c:=.t2 azo },e')
 | .t2 s =>match akg w e s with
  | (.go s,e') =>({ k with c:=.t2 s },e')
  | (.fin c x,e') =>(if c=1 then { k with x:=x,c:=.t7 (aGW x) } else { k with c:=.t3 aB8 },e')
 | .t3 s =>match aa8 w e s with
  | (.go s,e') =>({ k with c:=.t3 s },e')
  | (.fin c x,e') =>(if c=1 then { k with x:=x,c:=.t6 } else if c=0 then { k with c:=.t2 azo } else { k with c:=apE e' },e')
 | .t4 s =>match ajR w e s with
  | (.go s,e') =>({ k with c:=.t4 s },e')
  | (.fin c x,e') =>(if c=2 then { k with c:=.t8 .l1 } else { k with victim:=wi (Int.tdiv x 64),level:=Int.tmod x 64,c:=.t5 .l1 },e')
 | .t5 s =>match ahE (aav e.l k.victim k.level) e s with
  | (.go s,e') =>({ k with c:=.t5 s },e')
  | (.fin c x,e') =>if c=1 then ({ k with x:=x,c:=.t6 },e'.em 14 w x k.victim k.level) else if c=2 then ({ k with c:=.t9 .l1 },e') else ({ k with c:=.top },e')
 | .t6 =>(if adk k.x e=true then { k with c:=.t7 (aGW k.x) } else { k with c:=.top },aeU w k.x e)
 | .t7 s =>match awb w e s with
  | (.go s,e') =>({ k with c:=.t7 s },e')
  | (.fin _ _,e') =>({ k with c:=.top },e')
 | .t8 s =>match adN w e s with
  | (.go s,e') =>({ k with c:=.t8 s },e')
  | (.fin _ _,e') =>({ k with c:=.top },e')
 | .t9 s =>match afw (aaI e.l k.victim) k.level (aav e.l k.victim k.level) e s with
  | (.go s,e') =>({ k with c:=.t9 s },e')
  | (.fin _ _,e') =>({ k with c:=.top },e')
def aCl (subs:List Sub) (k:ClieS) (e:EnvP):Bool×ClieS×EnvP:=(decide ((subs.length:Int)≤wi (k.i+1)),{ k with i:=wi (k.i+1),acc:=false,c:=.n1 },e)
noncomputable def abf [Tb] (subs:List Sub) (me:Int) (e:EnvP) (k:ClieS) (s:Sub):Bool×ClieS×EnvP :=
 match k.c with
 | .n1 =>(false,{ k with c:=if e.hit 1 0=true then .n2 else .a1 },arP me e)
 | .a1 =>(false,{ k with c:=if e.hit 1 0=true then .n2 else .a1 },arP me e)
 | .n2 =>if e.c.heap≤wi (e.gt 2) then (false,{ k with c:=.n8 },(e.lk 2).em 2 me 0 k.i 1) else (false,{ k with c:=.n3 },e.lk 2)
 | .n3 =>if IsT e (wi (e.gt 0)) then (false,{ k with id:=wi (e.gt 0),c:=.n4 },(ab6 e).pr (wi (e.gt 0)) (ayz s.prog (-1))) else (false,{ k with c:=.n8 },(ab6 e).em 2 me 0 k.i 2)
 | .n4 =>(false,{ k with c:=.n5 },e.pt 2 (ab2 e.l k.id) (wu s.level))
 | .n5 =>(false,{ k with c:=.n6 },e.pt 2 (amz e.l k.id) (wu e.k.now))
 | .n6 =>match acf s.deadline k.id e .l1 with
  | (.go t,e') =>(false,{ k with c:=.a6 t },e')
  | (.fin c _,e') =>if c=0 then (false,{ k with acc:=true,c:=.n7 },e'.em 1 me k.id k.i s.level) else (false,{ k with c:=.n8 },e')
 | .a6 t =>match acf s.deadline k.id e t with
  | (.go t,e') =>(false,{ k with c:=.a6 t },e')
  | (.fin c _,e') =>if c=0 then (false,{ k with acc:=true,c:=.n7 },e'.em 1 me k.id k.i s.level) else (false,{ k with c:=.n8 },e')
 | .n7 =>(false,{ k with c:=.n8 },e.pt 2 (aaP e.l k.id) 1)
 | .n8 =>if k.acc=true then (false,{ k with c:=.n9 },atG e) else aCl subs k (atG e)
 | .n9 =>match aez me s.level e (.l1 0) with
  | (.go t,e') =>(false,{ k with c:=.a9 t },e')
  | (.fin _ _,e') =>aCl subs k e'
 | .a9 t =>match aez me s.level e t with
  | (.go t,e') =>(false,{ k with c:=.a9 t },e')
  | (.fin _ _,e') =>aCl subs k e'
noncomputable def ajJ [Tb] (subs:List Sub) (me:Int) (e:EnvP) (k:ClieS):Bool×ClieS×EnvP :=
 if (subs.length:Int)≤k.i then (true,k,e) else abf subs me e k (ac5 subs k.i)
end
section
open Go Go.RowKit
set_option maxRecDepth 100000
theorem aCH {α:Type} {d:α} {xs:List α} {a:Int} {x:α} (h:0≤a∧a<(xs.length:Int)):atL d (xs.set a.toNat x) a=x:=by
 have:a.toNat<xs.length:=by omega
 simp [atL,this]
theorem akU {cs:List Int} {a x:Int} (h:0≤a∧a<(cs.length:Int)):agR (cs.set a.toNat x) a=x:=aCH h
theorem aIT {x:Int} (h:¬ x<1) (h2:x≤9223372036854775807):wu x≠0:=by
 simp only [wu,IntKind.wrap,IntKind.bits,IntKind.signed]
 simp
 omega
theorem aIU (a:Int):0≤wu a∧wu a≤18446744073709551615:=by
 simp only [wu,IntKind.wrap,IntKind.bits,IntKind.signed]
 simp
 omega
section
variable {m:MemV} {a o v:Int}
theorem abU:adm m a=some ((m.gt a,()),(m.pt 1 a (m.gt a),())):=by
 unfold adm MemV.gt MemV.pt
 by_cases h:0≤a∧a<(m.cells.length:Int)
 ·have h1:¬ a<0:=by omega
  have h2:¬ ((m.cells.length:Nat):Int)≤a:=by omega
  simp only [h1,h2,h,and_self,if_true,if_false,List.length_set,akU h]
 ·by_cases h1:a<0
  ·simp only [h1,h,if_true,if_false]
  ·have h2:((m.cells.length:Nat):Int)≤a:=by omega
   simp only [h1,h2,h,if_true,if_false]
theorem abN:abH m a v=some ((),(m.pt 2 a v,())):=by
 unfold abH MemV.pt
 by_cases h:0≤a∧a<(m.cells.length:Int)
 ·have h1:¬ a<0:=by omega
  have h2:¬ ((m.cells.length:Nat):Int)≤a:=by omega
  simp only [h1,h2,h,and_self,if_true,if_false,List.length_set,akU h]
 ·by_cases h1:a<0
  ·simp only [h1,h,if_true,if_false]
  ·have h2:((m.cells.length:Nat):Int)≤a:=by omega
   simp only [h1,h2,h,if_true,if_false]
theorem akA:awc m a o v=some ((m.hit a o,()),(m.cas a o v,())):=by
 unfold awc MemV.hit MemV.cas MemV.pt MemV.gt
 by_cases h:0≤a∧a<(m.cells.length:Int)
 ·have h1:¬ a<0:=by omega
  have h2:¬ ((m.cells.length:Nat):Int)≤a:=by omega
  by_cases hc:agR m.cells a=o
  ·simp only [h1,h2,h,hc,and_self,if_true,if_false,List.length_set,akU h]
  ·simp only [h1,h2,h,hc,and_self,if_true,if_false,List.length_set,akU h,and_false]
 ·by_cases h1:a<0
  ·simp only [h1,h,if_true,if_false,false_and,decide_false]
  ·have h2:((m.cells.length:Nat):Int)≤a:=by omega
   simp only [h1,h2,h,if_true,if_false,false_and,decide_false]
theorem ayk:pOr m a v=some ((m.gt a,()),(m.pt 4 a (orU (m.gt a) v),())):=by
 unfold pOr MemV.gt MemV.pt
 by_cases h:0≤a∧a<(m.cells.length:Int)
 ·have h1:¬ a<0:=by omega
  have h2:¬ ((m.cells.length:Nat):Int)≤a:=by omega
  simp only [h1,h2,h,and_self,if_true,if_false,List.length_set,akU h]
 ·by_cases h1:a<0
  ·simp only [h1,h,if_true,if_false]
  ·have h2:((m.cells.length:Nat):Int)≤a:=by omega
   simp only [h1,h2,h,if_true,if_false]
theorem aqK:aFJ m a v=some ((m.gt a,()),(m.pt 5 a (aoG (m.gt a) v),())):=by
 unfold aFJ MemV.gt MemV.pt
 by_cases h:0≤a∧a<(m.cells.length:Int)
 ·have h1:¬ a<0:=by omega
  have h2:¬ ((m.cells.length:Nat):Int)≤a:=by omega
  simp only [h1,h2,h,and_self,if_true,if_false,List.length_set,akU h]
 ·by_cases h1:a<0
  ·simp only [h1,h,if_true,if_false]
  ·have h2:((m.cells.length:Nat):Int)≤a:=by omega
   simp only [h1,h2,h,if_true,if_false]
theorem ati:aIE m a v=some ((m.gt a,()),(m.pt 6 a (wu (m.gt a+v)),())):=by
 unfold aIE MemV.gt MemV.pt
 by_cases h:0≤a∧a<(m.cells.length:Int)
 ·have h1:¬ a<0:=by omega
  have h2:¬ ((m.cells.length:Nat):Int)≤a:=by omega
  simp only [h1,h2,h,and_self,if_true,if_false,List.length_set,akU h]
 ·by_cases h1:a<0
  ·simp only [h1,h,if_true,if_false]
  ·have h2:((m.cells.length:Nat):Int)≤a:=by omega
   simp only [h1,h2,h,if_true,if_false]
end
theorem aod {a n:Int}:avc a n=some ((att a n,()),()):=by
 unfold avc att
 by_cases h:n<1
 ·rw [if_pos h,if_pos h]
 ·rw [if_neg h,if_neg h,if_pos (show n≠0 by omega)]
  split<;>rfl
theorem aD5 {k:ClkV} {n:Int}:aD6 k n=some ((avL k n,()),(k,())):=by
 unfold aD6 avL att
 by_cases h:n<1
 ·rw [if_pos h,if_pos h]
 ·rw [if_neg h,if_neg h,if_pos (show n≠0 by omega)]
  split<;>rfl
theorem aoe {n:Int}:aC1 n=some ((aC5 n,()),()):=by
 unfold aC1 aC5
 rw [if_pos (aIU n).1]
 split
 ·rfl
 ·split<;>rfl
theorem atf {q:QV} {i:Int} (h:q.cap≤9223372036854775807):awN q i=some ((ah2 q i,()),()):=by
 unfold awN ah2
 by_cases h1:q.cap<1
 ·rw [if_pos h1,if_pos h1]
 ·rw [if_neg h1,if_neg h1,if_pos (aIT h1 h)]
theorem apV {b t:Int}:awJ b t=some ((szP b t,()),()):=rfl
theorem asc {i n a w:Int}:pAt i n a w=some ((atP i n a w,()),()):=by
 unfold pAt atP
 split
 ·rfl
 ·split<;>rfl
theorem amX {l:LayV} {t f:Int}:avb l t f=some ((adx l t f,()),()):=by unfold avb; rw [asc]; rfl
theorem afS {l:LayV} {t:Int}:ag9 l t=some ((aaP l t,()),()):=by unfold ag9; rw [amX]; rfl
theorem agC {l:LayV} {t:Int}:aha l t=some ((ab2 l t,()),()):=by unfold aha; rw [amX]; rfl
theorem aku {l:LayV} {t:Int}:akv l t=some ((amz l t,()),()):=by unfold akv; rw [amX]; rfl
theorem amU {l:LayV} {t:Int}:amV l t=some ((aeS l t,()),()):=by unfold amV; rw [amX]; rfl
theorem atb {l:LayV} {t:Int}:atc l t=some ((ac4 l t,()),()):=by unfold atc; rw [amX]; rfl
theorem ayj {l:LayV} {t:Int}:apx l t=some ((afL l t,()),()):=by unfold apx; rw [asc]; rfl
theorem amZ {l:LayV} {t:Int}:asa l t=some ((agK l t,()),()):=by unfold asa; rw [asc]; rfl
theorem ah7 {l:LayV} {t:Int}:ahO l t=some ((aiH l t,()),()):=by unfold ahO; rw [asc]; rfl
theorem afx {l:LayV} {t:Int}:ais l t=some ((aaI l t,()),()):=by unfold ais; rw [asc]; rfl
theorem akx {l:LayV} {w v:Int}:ahP l w v=some ((aav l w v,()),()):=by
 unfold ahP aav
 simp only [asc,Option.bind_some]
 split
 ·rfl
 ·split<;>rfl
theorem aDY {d a t:Int}:aDZ d a t=some (((aqG d a t).1,(aqG d a t).2,()),()):=by
 unfold aDZ aqG
 repeat' split
 all_goals rfl
theorem avd {l n c:Int}:ave l n c=some ((aCn l n c,()),()):=by
 unfold ave aCn
 by_cases h:n<1
 ·rw [if_pos h,if_pos h]
 ·rw [if_neg h,if_neg h,if_pos (show n≠0 by omega)]
  repeat' split
  all_goals rfl
theorem aLu (a:Int):0≤IntKind.u8.wrap a∧IntKind.u8.wrap a<256:=by
 simp only [IntKind.wrap,IntKind.bits,IntKind.signed]
 simp
 omega
theorem ayo {x:Int}:ah1 x=some ((atC x,()),()):=by
 have h:∃ y,ah1 x=some ((y,()),()):=by
  have hs:((aki.size:Nat):Int)=256:=rfl
  unfold ah1
  simp only [hs,aLu,and_self,if_true]
  repeat' split
  all_goals exact ⟨_,rfl⟩
 obtain ⟨y,hy⟩:=h
 unfold atC
 rw [hy]
theorem aBd [Tb] {x:Int}:aLa x=some ((aLN x,()),()):=by
 unfold aLa aLN
 split<;>rfl
theorem acE {e:EnvP} {v:Ev} (h:e.evs.length≤999999999):aeV e v=some ((),({ e with evs:=e.evs++[v] },())):=by
 unfold aeV
 rw [if_pos (by rw [List.length_singleton]; omega)]
@[reducible] def o0 : OutV := ⟨false,0,0⟩
@[reducible] def ayv (q : QV) (v : Int) : OPushS → OPushV
 | .l1 =>⟨o0,q,v,1,0⟩
 | .l2 b =>⟨o0,q,v,2,b⟩
 | .l3 b =>⟨o0,q,v,3,b⟩
 | .l4 b =>⟨o0,q,v,4,b⟩
@[reducible] def aD9 (q : QV) : OPopS → OPopV
 | .l1 =>⟨o0,q,1,0,0⟩
 | .l2 b =>⟨o0,q,2,b,0⟩
 | .l3 b t =>⟨o0,q,3,b,t⟩
 | .l4 b t =>⟨o0,q,4,b,t⟩
 | .l5 b t =>⟨o0,q,5,b,t⟩
 | .l6 b t =>⟨o0,q,6,b,t⟩
 | .l7 b t =>⟨o0,q,7,b,t⟩
 | .l8 b t =>⟨o0,q,8,b,t⟩
 | .l9 b t =>⟨o0,q,9,b,t⟩
@[reducible] def axT (q : QV) : StealS → StealV
 | .l1 =>⟨o0,q,1,0,0⟩
 | .l2 t =>⟨o0,q,2,t,0⟩
 | .l3 t =>⟨o0,q,3,t,0⟩
 | .l4 t v =>⟨o0,q,4,t,v⟩
@[reducible] def auX (a b : Int) (q : QV) : ResetS → ResetV
 | .l1 =>⟨o0,a,b,q,1,0⟩
 | .l2 =>⟨o0,a,b,q,2,0⟩
 | .l3 x =>⟨o0,a,b,q,3,x⟩
 | .l4 x =>⟨o0,a,b,q,4,x⟩
@[reducible] def amO (t v : Int) : PublishS → PublishV
 | .l1 =>⟨o0,t,v,1⟩
 | .l2 =>⟨o0,t,v,2⟩
 | .l3 =>⟨o0,t,v,3⟩
@[reducible] def atB (d t : Int) : InsertS → InsertV
 | .l1 =>⟨o0,d,t,1,0,0,0,0⟩
 | .l2 n =>⟨o0,d,t,2,n,0,0,0⟩
 | .l3 n i k x =>⟨o0,d,t,3,n,i,k,x⟩
 | .l4 n i k x =>⟨o0,d,t,4,n,i,k,x⟩
 | .l5 n i k x =>⟨o0,d,t,5,n,i,k,x⟩
 | .l6 n i k x =>⟨o0,d,t,6,n,i,k,x⟩
@[reducible] def as0 (w : Int) : RemoveS → RemoveV
 | .l1 =>⟨o0,w,1,0,0,0,0,0,0⟩
 | .l2 n =>⟨o0,w,2,n,0,0,0,0,0⟩
 | .l3 n x =>⟨o0,w,3,n,0,0,x,0,0⟩
 | .l4 n x y =>⟨o0,w,4,n,0,0,x,y,0⟩
 | .l5 n i c x y z =>⟨o0,w,5,n,i,c,x,y,z⟩
 | .l6 n i c x y z =>⟨o0,w,6,n,i,c,x,y,z⟩
 | .l7 n i c x y z =>⟨o0,w,7,n,i,c,x,y,z⟩
 | .l8 n i c x y z =>⟨o0,w,8,n,i,c,x,y,z⟩
@[reducible] def auD (w v : Int) : WakeS → WakeV
 | .l1 j =>⟨o0,w,v,1,j,0⟩
 | .l2 j x =>⟨o0,w,v,2,j,x⟩
 | .l3 j x =>⟨o0,w,v,3,j,x⟩
@[reducible] def auK (w : Int) : SleepS → SleepV
 | .l1 =>⟨o0,w,1,0,0,0⟩
 | .l2 ep =>⟨o0,w,2,ep,0,0⟩
 | .l3 ep =>⟨o0,w,3,ep,0,0⟩
 | .l4 ep v =>⟨o0,w,4,ep,v,0⟩
 | .l5 ep v s =>⟨o0,w,5,ep,v,s⟩
 | .l6 ep v s =>⟨o0,w,6,ep,v,s⟩
 | .l7 ep v s =>⟨o0,w,7,ep,v,s⟩
@[reducible] def amR (w : Int) : ProbeS → ProbeV
 | .new =>⟨o0,w,false,0,0,aKY⟩
 | .run s i bm =>⟨o0,w,true,s,i,bm⟩
@[reducible] def au6 (w t v : Int) : RaiseS → RaiseV
 | .l1 q =>⟨o0,w,t,v,1,q⟩
 | .l2 q =>⟨o0,w,t,v,2,q⟩
def aaY {σ X:Type} (og:X→OutV) (mk:σ→X) (res:Option ((Bool×Unit)×(X×EnvP×Unit))) (r:Rs σ×EnvP):Prop :=
 match r with
 | (.go s,e) =>res=some ((false,()),(mk s,e,()))
 | (.fin c v,e) =>∃ x,res=some ((true,()),(x,e,()))∧og x=⟨true,c,v⟩
section
variable {σ X:Type} {og:X→OutV} {mk:σ→X} {a b:Option ((Bool×Unit)×(X×EnvP×Unit))} {r s:Rs σ×EnvP}
theorem aaY.ite {c:Prop} [Decidable c] (h1:c→aaY og mk a r) (h2:¬ c→aaY og mk b s):aaY og mk (if c then a else b) (if c then r else s):=by
 by_cases h:c
 ·rw [if_pos h,if_pos h]; exact h1 h
 ·rw [if_neg h,if_neg h]; exact h2 h
theorem aaY.iteN {c:Bool} (h1:c=true→aaY og mk b r) (h2:c=false→aaY og mk a s):aaY og mk (if (!c)=true then a else b) (if c=true then r else s):=by
 cases c
 ·exact h2 rfl
 ·exact h1 rfl
theorem aaY.iteL {c:Prop} [Decidable c] (h1:c→aaY og mk a r) (h2:¬ c→aaY og mk b r):aaY og mk (if c then a else b) r:=by
 by_cases h:c
 ·rw [if_pos h]; exact h1 h
 ·rw [if_neg h]; exact h2 h
theorem aa3 {c:Prop} [Decidable c] {x y:Rs σ} {e:EnvP}:((if c then x else y),e)=if c then (x,e) else (y,e):=by split<;>rfl
theorem avF {c:Prop} [Decidable c] {x y:σ}:Rs.go (if c then x else y)=if c then Rs.go x else Rs.go y:=by split<;>rfl
end
theorem acK {α β:Type} {c:Prop} [Decidable c] {x y:Option α} {f:α→Option β}:(if c then x else y).bind f=if c then x.bind f else y.bind f:=by split<;>rfl
section
variable {e:EnvP}
theorem avh {q:QV} {v:Int} (hq:q.cap≤9223372036854775807) (s:OPushS):aaY OPushV.o (ayv q v) (aee (ayv q v s) e) (ae3 q v e s):=by
 cases s<;>simp only [aee,ayv,ae3,aaw,abx,o0,abU,abN,apV,atf hq,Option.bind_some,Bool.false_eq_true,if_true,if_false,reduceIte,Int.reduceEq,aa3]
 all_goals repeat' first | with_reducible refine aaY.ite (fun _ =>?_) fun _ =>?_ | with_reducible refine aaY.iteN (fun _ =>?_) fun _ =>?_
 all_goals first | rfl | exact ⟨_,rfl,rfl⟩
theorem aD7 {q:QV} (hq:q.cap≤9223372036854775807) (s:OPopS):aaY OPopV.o (aD9 q) (aeD (aD9 q s) e) (al0 q e s):=by
 cases s<;>simp only [aeD,ait,aD9,al0,aaw,abx,o0,abU,abN,akA,apV,atf hq,Option.bind_some,Bool.false_eq_true,if_true,if_false,reduceIte,Int.reduceEq,aa3,acK]
 all_goals repeat' first | with_reducible refine aaY.ite (fun _ =>?_) fun _ =>?_ | with_reducible refine aaY.iteN (fun _ =>?_) fun _ =>?_
 all_goals first | rfl | exact ⟨_,rfl,rfl⟩
theorem aAm {q:QV} (hq:q.cap≤9223372036854775807) (s:StealS):aaY StealV.o (axT q) (adI (axT q s) e) (ahE q e s):=by
 cases s<;>simp only [adI,axT,ahE,aaw,abx,o0,abU,abN,akA,apV,atf hq,Option.bind_some,Bool.false_eq_true,if_true,if_false,reduceIte,Int.reduceEq,aa3]
 all_goals repeat' first | with_reducible refine aaY.ite (fun _ =>?_) fun _ =>?_ | with_reducible refine aaY.iteN (fun _ =>?_) fun _ =>?_
 all_goals first | rfl | exact ⟨_,rfl,rfl⟩
theorem auV {a b:Int} {q:QV} (s:ResetS):aaY ResetV.o (auX a b q) (adf (auX a b q s) e) (afw a b q e s):=by
 cases s<;>simp only [adf,auX,afw,aaw,abx,o0,abU,abN,aqK,ayk,aoe,apV,Option.bind_some,Bool.false_eq_true,if_true,if_false,reduceIte,Int.reduceEq,aa3]
 all_goals repeat' first | with_reducible refine aaY.ite (fun _ =>?_) fun _ =>?_ | with_reducible refine aaY.iteN (fun _ =>?_) fun _ =>?_
 all_goals first | rfl | exact ⟨_,rfl,rfl⟩
theorem aGN {a b:Int}:∃ x,aeh ⟨o0,a,b⟩ e=some ((true,()),(x,aDC a b e,()))∧x.o=⟨true,0,0⟩:=by
 simp only [aeh,aaw,abx,o0,ayk,aoe,Option.bind_some,Bool.false_eq_true,if_true,if_false]
 exact ⟨_,rfl,rfl⟩
theorem akH {t:Int}:af6 e t=some ((decide (IsT e t),()),(e,())):=by
 unfold af6 IsT
 by_cases h:0≤t
 ·simp only [h,if_true,true_and]
 ·simp only [h,if_false,false_and,decide_false]
theorem atN {t v:Int}:akS e t v=some ((decide (aut e t v),()),(e,())):=by
 unfold akS aut
 by_cases h:0≤t
 ·by_cases h2:t<e.c.tasks
  ·by_cases h3:0≤v
   ·simp only [h,h2,h3,if_true,true_and]
   ·simp only [h,h2,h3,if_true,if_false,false_and,and_false,decide_false]
  ·simp only [h,h2,if_true,if_false,false_and,and_false,decide_false]
 ·simp only [h,if_false,false_and,decide_false]
theorem av5:∃ x,ack ⟨o0⟩ e=some ((true,()),(x,ab6 e,()))∧x.o=if IsT e (wi (e.gt 0)) then ⟨true,1,wi (e.gt 0)⟩ else ⟨true,3,0⟩:=by
 simp only [ack,aaw,abx,aHi,o0,ati,akH,Option.bind_some,Bool.false_eq_true,if_true,if_false]
 by_cases h:IsT e (wi (e.gt 0))
 ·have h':IsT { e with m:=e.m.pt 6 0 (wu (e.m.gt 0+1)) } (wi (e.m.gt 0)):=h
  simp only [h,h',decide_true,Bool.not_true,Bool.false_eq_true,if_true,if_false]
  exact ⟨_,rfl,rfl⟩
 ·have h':¬ IsT { e with m:=e.m.pt 6 0 (wu (e.m.gt 0+1)) } (wi (e.m.gt 0)):=h
  simp only [h,h',decide_false,Bool.not_false,if_true,if_false]
  exact ⟨_,rfl,rfl⟩
theorem awB {t v:Int} (s:PublishS):aaY PublishV.o (amO t v) (acb (amO t v s) e) (afR t v e s):=by
 by_cases h:IsT e t
 ·cases s<;>simp only [acb,amO,afR,akH,h,not_true,decide_true,Bool.not_true,aaw,abx,aux,o0,abN,agC,aku,afS,Option.bind_some,Bool.false_eq_true,if_true,if_false,reduceIte,Int.reduceEq]
  all_goals first | rfl | exact ⟨_,rfl,rfl⟩
 ·cases s<;>simp only [acb,amO,afR,akH,h,not_false_eq_true,decide_false,Bool.not_false,aaw,abx,o0,Option.bind_some,Bool.false_eq_true,if_true,if_false]
  all_goals exact ⟨_,rfl,rfl⟩
theorem atx {w:Int} {b:Bool}:∃ d x,adc ⟨o0,w,b⟩ e=some ((d,()),(x,arP w e,()))∧(d=true→x.o=if e.hit 1 0=true then ⟨true,1,0⟩ else ⟨true,5,0⟩)∧(d=(e.hit 1 0 || b))∧(d=false→x=⟨o0,w,b⟩):=by
 simp only [adc,aaw,abx,aBe,o0,akA,Option.bind_some,Bool.false_eq_true,if_true,if_false]
 rcases Bool.eq_false_or_eq_true (e.m.hit 1 0) with h | h
 ·simp only [h,if_true]; exact ⟨_,_,rfl,(fun _ =>rfl),rfl,(fun h =>by cases h)⟩
 ·cases b
  ·simp only [h,Bool.false_eq_true,if_false]; exact ⟨_,_,rfl,(fun h =>by cases h),rfl,fun _ =>rfl⟩
  ·simp only [h,Bool.false_eq_true,if_false,if_true]; exact ⟨_,_,rfl,(fun _ =>rfl),rfl,(fun h =>by cases h)⟩
theorem ayO:∃ x,adb ⟨o0⟩ e=some ((true,()),(x,atG e,()))∧x.o=⟨true,0,0⟩:=by
 simp only [adb,aaw,abx,aBe,o0,abN,Option.bind_some,Bool.false_eq_true,if_true,if_false]
 exact ⟨_,rfl,rfl⟩
theorem anz {w t:Int} (hl:e.evs.length≤999999999) (hr:e.hit (aaP e.l t) 1=true→0≤t∧t<(e.recs.length:Int)):∃ x,adJ ⟨o0,w,t⟩ e=some ((true,()),(x,aeU w t e,()))∧x.o=if adk t e=true then ⟨true,1,t⟩ else ⟨true,4,0⟩:=by
 simp only [adJ,aaw,abx,o0,akA,afS,Option.bind_some,Bool.false_eq_true,if_true,if_false]
 unfold aeU adk
 simp only [EnvP.hit] at hr ⊢
 rcases Bool.eq_false_or_eq_true (e.m.hit (aaP e.l t) 1) with h | h
 ·simp only [h,Bool.not_true,Bool.false_eq_true,if_true,if_false,hr h,and_self]
  by_cases hs:(aab e.recs t).started=true
  ·have hs':(e.rc t).started=true:=hs
   simp only [hs,hs',if_true,acE (e:={ e with m:=e.m.cas (aaP e.l t) 1 2 }) hl,Option.bind_some]
   exact ⟨_,rfl,rfl⟩
  ·have hs':¬ (e.rc t).started=true:=hs
   simp only [hs,hs',if_false,acE (e:={ e with m:=e.m.cas (aaP e.l t) 1 2,recs:=e.recs.set t.toNat { aab e.recs t with started:=true } }) hl,Option.bind_some]
   exact ⟨_,rfl,rfl⟩
 ·simp only [h,Bool.not_false,Bool.false_eq_true,if_true,if_false,acE (e:={ e with m:=e.m.cas (aaP e.l t) 1 2 }) hl,Option.bind_some]
  exact ⟨_,rfl,rfl⟩
theorem ask {d t:Int} (s:InsertS):aaY InsertV.o (atB d t) (ab4 (atB d t s) e) (acf d t e s):=by
 cases s<;>simp only [arS,ab4,aef,au9,atB,acf,aaw,abx,ahQ,ath,o0,abU,abN,ati,ayj,aDY,Option.bind_some,Bool.false_eq_true,if_true,if_false,reduceIte,Int.reduceEq,aa3,acK,avF]
 all_goals repeat' first | with_reducible refine aaY.ite (fun _ =>?_) fun _ =>?_ | with_reducible refine aaY.iteN (fun _ =>?_) fun _ =>?_
 all_goals first | rfl | exact ⟨_,rfl,rfl⟩
theorem azv {w:Int} (hl:e.evs.length≤999999999) (s:RemoveS):aaY RemoveV.o (as0 w) (ab3 (as0 w s) e) (acP w e s):=by
 have hm:∀ m v,aeV { e with m:=m } v=some ((),({ e with m:=m,evs:=e.evs++[v] },())):=fun m v =>acE (e:={ e with m:=m }) hl
 cases s<;>simp only [arS,ab3,afo,adC,adj,acx,avV,azH,as0,acP,aaw,abx,ahQ,awI,o0,abU,abN,ayj,hm,Option.bind_some,Bool.false_eq_true,if_true,if_false,reduceIte,Int.reduceEq,aa3,acK,avF]
 all_goals repeat' first | with_reducible refine aaY.ite (fun _ =>?_) fun _ =>?_ | with_reducible refine aaY.iteN (fun _ =>?_) fun _ =>?_
 all_goals first | rfl | exact ⟨_,rfl,rfl⟩ | skip
 refine aaY.iteL (fun h =>?_) fun h =>?_
 ·rw [if_pos h]
  exact aaY.ite (fun _ =>rfl) fun _ =>rfl
 ·rw [if_neg h]
  exact aaY.ite (fun _ =>rfl) fun _ =>rfl
theorem au4 {w t v:Int} (hl:e.evs.length≤999999999) (s:RaiseS):aaY RaiseV.o (au6 w t v) (acZ (au6 w t v s) e) (aeT w t v e s):=by
 have hm:∀ m v,aeV { e with m:=m } v=some ((),({ e with m:=m,evs:=e.evs++[v] },())):=fun m v =>acE (e:={ e with m:=m }) hl
 by_cases h:aut e t v
 ·cases s<;>simp only [acZ,au6,aeT,atN,h,not_true,decide_true,Bool.not_true,aaw,abx,o0,abU,akA,agC,hm,Option.bind_some,Bool.false_eq_true,if_true,if_false,reduceIte,Int.reduceEq,aa3]
  all_goals repeat' first | with_reducible refine aaY.ite (fun _ =>?_) fun _ =>?_ | with_reducible refine aaY.iteN (fun _ =>?_) fun _ =>?_
  all_goals first | rfl | exact ⟨_,rfl,rfl⟩
 ·cases s<;>simp only [acZ,au6,aeT,atN,h,not_false_eq_true,decide_false,Bool.not_false,aaw,abx,o0,Option.bind_some,Bool.false_eq_true,if_true,if_false]
  all_goals exact ⟨_,rfl,rfl⟩
theorem aAz {w:Int} (hl:e.evs.length≤999999999) (s:SleepS):aaY SleepV.o (auK w) (ady (auK w s) e) (adN w e s):=by
 have hm:∀ m k v,aeV { e with m:=m,k:=k } v=some ((),({ e with m:=m,k:=k,evs:=e.evs++[v] },())):=fun m k v =>acE (e:={ e with m:=m,k:=k }) hl
 by_cases hc:e.c.classes<1
 ·cases s<;>simp only [arS,ady,ahi,ahh,auK,adN,ag6,hc,aaw,abx,aux,ahQ,o0,abU,ayk,aqK,aoe,aod,amZ,ah7,afx,hm,Option.bind_some,Bool.false_eq_true,if_true,if_false,reduceIte,Int.reduceEq,aa3,acK]
  all_goals repeat' first | with_reducible refine aaY.ite (fun _ =>?_) fun _ =>?_ | with_reducible refine aaY.iteN (fun _ =>?_) fun _ =>?_
  all_goals first | rfl | exact ⟨_,rfl,rfl⟩
 ·cases s<;>simp only [arS,ady,ahi,ahh,auK,adN,ag6,hc,aaw,abx,aux,ahQ,o0,abU,ayk,aqK,aoe,aod,amZ,ah7,afx,hm,Option.bind_some,Bool.false_eq_true,if_true,if_false,reduceIte,Int.reduceEq,aa3,acK]
  all_goals repeat' first | with_reducible refine aaY.ite (fun _ =>?_) fun _ =>?_ | with_reducible refine aaY.iteN (fun _ =>?_) fun _ =>?_
  all_goals first | rfl | exact ⟨_,rfl,rfl⟩
theorem amn [Tb] {w v:Int} (hl:e.evs.length≤999999999) (s:WakeS):aaY WakeV.o (auD w v) (ad5 (auD w v s) e) (aez w v e s):=by
 have hm:∀ m v,aeV { e with m:=m } v=some ((),({ e with m:=m,evs:=e.evs++[v] },())):=fun m v =>acE (e:={ e with m:=m }) hl
 by_cases hc:e.c.classes<1
 ·cases s<;>simp only [arS,ad5,auD,aez,alq,hc,aaw,abx,aBd,o0,abU,ati,aqK,aoe,aod,avd,amZ,ah7,hm,Option.bind_some,Bool.false_eq_true,if_true,if_false,reduceIte,Int.reduceEq,aa3,acK,decide_eq_true_eq]
  all_goals repeat' first | with_reducible refine aaY.ite (fun _ =>?_) fun _ =>?_ | with_reducible refine aaY.iteN (fun _ =>?_) fun _ =>?_
  all_goals first | rfl | exact ⟨_,rfl,rfl⟩
 ·cases s<;>simp only [arS,ad5,auD,aez,alq,hc,aaw,abx,aBd,o0,abU,ati,aqK,aoe,aod,avd,amZ,ah7,hm,Option.bind_some,Bool.false_eq_true,if_true,if_false,reduceIte,Int.reduceEq,aa3,acK,decide_eq_true_eq]
  all_goals repeat' first | with_reducible refine aaY.ite (fun _ =>?_) fun _ =>?_ | with_reducible refine aaY.iteN (fun _ =>?_) fun _ =>?_
  all_goals first | rfl | exact ⟨_,rfl,rfl⟩
end
section
variable {e:EnvP}
theorem aA8 {x:ProbeV} {n:Int} (hn:1≤n):ae2 x n=some ((decide (n≤alv x.worker n x.start x.next),()),({ x with next:=alv x.worker n x.start x.next },())):=by
 unfold ae2 alv
 have h0:n≠0:=by omega
 by_cases h:x.next<n
 ·by_cases h2:Int.tmod (wi (x.start+x.next)) n=x.worker
  ·simp only [h,h0,h2,ne_eq,not_false_eq_true,if_true,decide_true,Option.bind_some,and_self]
  ·simp only [h,h0,h2,ne_eq,not_false_eq_true,if_true,decide_false,Option.bind_some,and_false,if_false,Bool.false_eq_true]
 ·simp only [h,false_and,if_false,Option.bind_some,Bool.false_eq_true]
theorem aw0 (h:1≤e.c.workers):1≤abJ e∧abJ e≤16:=by
 unfold abJ
 split<;>omega
theorem aAd {a n:Int} (hn:1≤n) (ha:0≤a):0≤Int.tmod a n∧Int.tmod a n<n:=by
 rw [Int.tmod_eq_emod_of_nonneg ha]
 exact ⟨Int.emod_nonneg _ (by omega),Int.emod_lt_of_pos _ (by omega)⟩
theorem aA2 {w s:Int} {n:Int} (hn:1≤n∧n≤16) (hs:0≤s∧s≤100) (st:Int) (hst:att st n=s) (x:ProbeV) (hx:x.start=st) (F:(Int×Int×Int×ProbeV×Unit→Option (Int×Int×Int×ProbeV×Unit))→Int×Int×Int×ProbeV×Unit→Option (Int×Int×Int×ProbeV×Unit))
  (hF:∀ self a b i,0≤i→i≤16→F self (a,b,i,x,())=if i<n then (if Int.tmod (wi (s+i)) n≠w∧b<atC (x.bm.at (Int.tmod (wi (s+i)) n)) then self (Int.tmod (wi (s+i)) n,atC (x.bm.at (Int.tmod (wi (s+i)) n)),wi (i+1),x,()) else self (a,b,wi (i+1),x,())) else some (a,b,i,x,())) :
  ∀ (k fuel:Nat) (i a b:Int),0≤i→(i+(k:Int)=n)→k<fuel→lpF F fuel (a,b,i,x,())=some ((azy w n s x.bm k i (a,b)).1,(azy w n s x.bm k i (a,b)).2,n,x,()):=by
 intro k
 induction k with
 | zero =>
  intro fuel i a b h0 hi hf
  obtain ⟨fuel,rfl⟩:∃ f,fuel=f+1:=⟨fuel-1,by omega⟩
  show F (lpF F fuel) _=_
  rw [hF _ _ _ _ h0 (by omega),if_neg (by omega)]
  have:i=n:=by omega
  subst this
  rfl
 | succ k ih =>
  intro fuel i a b h0 hi hf
  obtain ⟨fuel,rfl⟩:∃ f,fuel=f+1:=⟨fuel-1,by omega⟩
  show F (lpF F fuel) _=_
  rw [hF _ _ _ _ h0 (by omega),if_pos (by omega)]
  have e1:wi (i+1)=i+1:=aaK (aao (by omega))
  rw [e1]
  unfold azy
  split
  ·exact ih fuel (i+1) _ _ (by omega) (by omega) (by omega)
  ·exact ih fuel (i+1) _ _ (by omega) (by omega) (by omega)
theorem aaY.bind {σ X α:Type} {og:X→OutV} {mk:σ→X} {r:Rs σ×EnvP} {A:Option α} {f:α→Option ((Bool×Unit)×(X×EnvP×Unit))} {z:α} (h:A=some z) (h2:aaY og mk (f z) r):aaY og mk (A.bind f) r:=by rw [h]; exact h2
theorem aCF {α β:Type} {A:Option α} {f:α→Option β} {z:α} (h:A=some z):A.bind f=f z:=by rw [h]; rfl
theorem aaY.ite' {σ X:Type} {og:X→OutV} {mk:σ→X} {a b:Option ((Bool×Unit)×(X×EnvP×Unit))} {r s:Rs σ×EnvP} {c:Prop} [Decidable c] (h1:c→aaY og mk b r) (h2:¬ c→aaY og mk a s):aaY og mk (if (!decide c)=true then a else b) (if c then r else s):=by
 by_cases h:c
 ·rw [if_pos h,decide_eq_true h]; exact h1 h
 ·rw [if_neg h,decide_eq_false h]; exact h2 h
def aoK (n:Int):ProbeS→Prop
 | .new =>True
 | .run s i _ =>(0≤s∧s<n)∧0≤i∧i≤n
theorem aBw {a n:Int} (hn:1≤n∧n≤1000000):0≤att a n∧att a n<n:=by
 unfold att
 rw [if_neg (by omega)]
 have h1:-n<Int.tmod a n:=Int.lt_tmod_of_pos a (b:=n) (by omega)
 have h2:Int.tmod a n<n:=Int.tmod_lt_of_pos a (b:=n) (by omega)
 split
 ·rw [aaK (aao (by omega))]; omega
 ·omega
theorem aHH {s n:Int} (h:0≤s∧s<n):att s n=s:=by
 unfold att
 rw [if_neg (by omega)]
 have e1:Int.tmod s n=s:=Int.tmod_eq_of_lt h.1 h.2
 rw [e1,if_neg (by omega)]
theorem as7 {w n s i:Int} (hi:0≤i∧i≤n) (hn:n≤16):i≤alv w n s i∧alv w n s i≤n:=by
 unfold alv
 split
 ·rw [aaK (aao (by omega))]; omega
 ·omega
theorem aMx {v:Int} (h:0≤v∧v<16):v=15∨v=14∨v=13∨v=12∨v=11∨v=10∨v=9∨v=8∨v=7∨v=6∨v=5∨v=4∨v=3∨v=2∨v=1∨v=0:=by omega
theorem au8 {w s i:Int} {bm:B16} (hw:1≤e.c.workers) (h:aoK (abJ e) (.run s i bm)):aaY ProbeV.o (amR w) (abB (amR w (.run s i bm)) e) (ag8 w e s i bm):=by
 obtain ⟨hs,hi⟩:=h
 have hn:=aw0 hw
 have hM:(if 16<e.c.workers then 16 else e.c.workers)=abJ e:=rfl
 have hp:=as7 (w:=w) (s:=s) hi hn.2
 unfold abB ag8
 simp only [amR,aaw,o0,hM,Option.bind_some,Bool.false_eq_true,if_false,Bool.not_true,aA8 hn.1,decide_eq_true_eq,abx]
 refine aaY.ite (fun _ =>⟨_,rfl,rfl⟩) fun hlt =>?_
 generalize hj:alv w (abJ e) s i=j at hp hlt ⊢
 have hsj:wi (s+j)=s+j:=aaK (aao (by omega))
 have hv:=aAd (a:=s+j) hn.1 (by omega)
 have hj1:wi (j+1)=j+1:=aaK (aao (by omega))
 rw [if_pos (show abJ e≠0 by omega),hsj,hj1]
 generalize hvv:Int.tmod (s+j) (abJ e)=v at hv ⊢
 have hp2:=as7 (w:=w) (s:=s) (i:=j+1) ⟨by omega,by omega⟩ hn.2
 simp only [afx,abU,Option.bind_some]
 refine aaY.bind (z:=(⟨⟨false,0,0⟩,w,true,s,j,bm.put v (e.m.gt (aaI e.l v))⟩,{ e with m:=e.m.pt 1 (aaI e.l v) (e.m.gt (aaI e.l v)) },())) ?_ ?_
 ·rcases aMx (v:=v) (by omega) with h | h | h | h | h | h | h | h | h | h | h | h | h | h | h | h<;>subst h<;>rfl
 simp only [hj1,aA8 hn.1,Option.bind_some]
 generalize hj2:alv w (abJ e) s (j+1)=j2 at hp2 ⊢
 refine aaY.ite' (c:=abJ e≤j2) (fun h2 =>?_) (fun h2 =>?_)
 ·simp only [if_true,if_pos (show 0≤abJ e∧abJ e≤((16:Nat):Int) by omega)]
  have ht:(((abJ e).toNat:Nat):Int)=abJ e:=by omega
  have hm:att s (abJ e)=s:=aHH hs
  refine aaY.bind (aA2 (w:=w) (s:=s) (n:=abJ e) hn ⟨hs.1,by omega⟩ s hm _ rfl _ (fun self a b i h0 h16 =>?_) (abJ e).toNat _ 0 (-1) (-1) (Int.le_refl 0) (by omega) (by omega)) ?_
  ·simp only [ht,aod,hm,Option.bind_some]
   refine ite_congr rfl (fun hlt =>?_) fun _ =>rfl
   have hsi:wi (s+i)=s+i:=aaK (aao (by omega))
   have hv2:=aAd (a:=s+i) hn.1 (by omega)
   rw [if_pos (show abJ e≠0 by omega),hsi]
   generalize Int.tmod (s+i) (abJ e)=u at hv2 ⊢
   rw [if_pos hv2.2]
   refine (aCF (z:=(atC ((bm.put v (e.m.gt (aaI e.l v))).at u),⟨⟨false,0,0⟩,w,true,s,j2,bm.put v (e.m.gt (aaI e.l v))⟩,())) ?_).trans ?_
   ·rcases aMx (v:=u) (by omega) with h | h | h | h | h | h | h | h | h | h | h | h | h | h | h | h<;>subst h<;>exact aCF ayo
   ·by_cases c1:u≠w
    ·by_cases c2:b<atC ((bm.put v (e.m.gt (aaI e.l v))).at u)
     ·rw [if_pos c1,if_pos c2,if_pos ⟨c1,c2⟩]
     ·rw [if_pos c1,if_neg c2,if_neg (fun h =>c2 h.2)]
    ·rw [if_neg c1,if_neg (fun h =>c1 h.1)]
  ·have hc:arx w (abJ e) s (bm.put v (e.m.gt (aaI e.l v)))=azy w (abJ e) s (bm.put v (e.m.gt (aaI e.l v))) (abJ e).toNat 0 (-1,-1):=by unfold arx; rw [hm]
   rw [hc]
   simp only [aa3,Option.bind_some]
   exact aaY.ite (fun _ =>⟨_,rfl,rfl⟩) fun _ =>⟨_,rfl,rfl⟩
 ·rfl
theorem aAX {w:Int} (hw:1≤e.c.workers) (s:ProbeS) (h:aoK (abJ e) s):aaY ProbeV.o (amR w) (abB (amR w s) e) (ajR w e s):=by
 cases s with
 | run s i bm =>exact au8 hw h
 | new =>
  have hn:=aw0 hw
  have hd:0≤avL e.k (abJ e)∧avL e.k (abJ e)<abJ e:=aBw ⟨hn.1,by omega⟩
  have h1:=au8 (w:=w) (s:=avL e.k (abJ e)) (i:=0) (bm:=aKY) hw ⟨hd,Int.le_refl 0,by omega⟩
  have hM:(if 16<e.c.workers then 16 else e.c.workers)=abJ e:=rfl
  have e1:abB (amR w .new) e=abB (amR w (.run (avL e.k (abJ e)) 0 aKY)) e:=by
   unfold abB
   simp only [amR,aaw,o0,hM,Option.bind_some,Bool.false_eq_true,if_false,Bool.not_true,Bool.not_false,if_true,aD5]
  rw [e1]
  exact h1
theorem aDT {w:Int} (hw:1≤e.c.workers) {s s':ProbeS} {e':EnvP} (h:aoK (abJ e) s) (hs:ajR w e s=(.go s',e')):aoK (abJ e) s':=by
 have hn:=aw0 hw
 have key:∀ s i bm,(0≤s∧s<abJ e)→(0≤i∧i≤abJ e)→ag8 w e s i bm=(.go s',e')→aoK (abJ e) s':=fun s i bm hs0 hi hg =>by
  have hp:=as7 (w:=w) (s:=s) hi hn.2
  unfold ag8 at hg
  generalize alv w (abJ e) s i=j at hp hg
  split at hg
  ·cases hg
  ·rename_i hlt
   have hj1:wi (j+1)=j+1:=aaK (aao (by omega))
   have hp2:=as7 (w:=w) (s:=s) (i:=j+1) ⟨by omega,by omega⟩ hn.2
   simp only [hj1] at hg
   split at hg
   ·split at hg<;>cases hg
   ·cases hg
    exact ⟨hs0,by omega,by omega⟩
 cases s with
 | run s i bm =>exact key s i bm h.1 h.2 hs
 | new =>exact key _ 0 _ (aBw ⟨hn.1,by omega⟩) ⟨Int.le_refl 0,by omega⟩ hs
end
inductive One (m:MemV):MemV→Prop where
 | no:One m m
 | yes (k a v:Int) (h:0≤a∧a<(m.cells.length:Int)) (hk:k<2→v=agR m.cells a):One m ⟨m.cells.set a.toNat v,⟨k,a,agR m.cells a,v⟩,wi (m.count+1)⟩
structure Stp (j:Nat) (e e':EnvP):Prop where
 c:e'.c=e.c
 l:e'.l=e.l
 k:e'.k=e.k
 rl:e'.recs.length=e.recs.length
 m:One e.m e'.m
 ev:e'.evs.length≤e.evs.length+j
 kd:∀ K,(∀ r∈e.recs,r.kids.length≤K)→∀ r∈e'.recs,r.kids.length≤K+1
section
variable {j:Nat} {e e':EnvP}
theorem Stp.refl:Stp 0 e e:=⟨rfl,rfl,rfl,rfl,.no,Nat.le_refl _,fun K h r hr =>Nat.le_succ_of_le (h r hr)⟩
theorem Stp.le {i:Nat} (h:Stp j e e') (hi:j≤i):Stp i e e':=⟨h.c,h.l,h.k,h.rl,h.m,Nat.le_trans h.ev (Nat.add_le_add_left hi _),h.kd⟩
theorem aBr {m:MemV} {k a v:Int} (hk:k<2→0≤a→a<(m.cells.length:Int)→v=agR m.cells a):One m (m.pt k a v):=by
 unfold MemV.pt
 by_cases h:0≤a∧a<(m.cells.length:Int)
 ·rw [if_pos h]; exact .yes k a v h fun hk' =>hk hk' h.1 h.2
 ·rw [if_neg h]; exact .no
theorem Stp.pt {k a v:Int} (hk:2≤k):Stp 0 e (e.pt k a v):=⟨rfl,rfl,rfl,rfl,aBr fun h =>absurd h (by omega),Nat.le_refl _,fun K h r hr =>Nat.le_succ_of_le (h r hr)⟩
theorem Stp.lk {a:Int}:Stp 0 e (e.lk a):=⟨rfl,rfl,rfl,rfl,aBr fun _ h1 h2 =>by unfold MemV.gt; rw [if_pos ⟨h1,h2⟩],Nat.le_refl _,fun K h r hr =>Nat.le_succ_of_le (h r hr)⟩
theorem Stp.cas {a o v:Int}:Stp 0 e (e.cas a o v):=⟨rfl,rfl,rfl,rfl,aBr fun h =>absurd h (by omega),Nat.le_refl _,fun K h r hr =>Nat.le_succ_of_le (h r hr)⟩
theorem Stp.em {k w t o l:Int} (h:Stp j e e'):Stp (j+1) e (e'.em k w t o l):=⟨h.c,h.l,h.k,h.rl,h.m,by
 show (e'.evs++[_]).length≤_
 rw [List.length_append,List.length_singleton]
 have:=h.ev
 omega,h.kd⟩
theorem Stp.pr {t:Int} {r:RecP} (h:Stp j e e') (hr:∀ K,(∀ r∈e.recs,r.kids.length≤K)→r.kids.length≤K+1):Stp j e (e'.pr t r):=⟨h.c,h.l,h.k,(by show (e'.recs.set _ _).length=_; rw [List.length_set]; exact h.rl),h.m,h.ev,fun K hK x hx =>by
 rcases List.mem_or_eq_of_mem_set hx with hx | rfl
 ·exact h.kd K hK x hx
 ·exact hr K hK⟩
theorem apX {q:QV} {v:Int} (s:OPushS):Stp 0 e (ae3 q v e s).2:=by
 cases s<;>unfold ae3<;>first | exact .lk | exact .pt (by decide)
theorem aBk {q:QV} (s:OPopS):Stp 0 e (al0 q e s).2:=by
 cases s<;>unfold al0<;>first | exact .lk | exact .pt (by decide) | exact .cas
theorem axS {q:QV} (s:StealS):Stp 0 e (ahE q e s).2:=by
 cases s<;>unfold ahE<;>first | exact .lk | exact .pt (by decide) | exact .cas
theorem ax4 {a b:Int} {q:QV} (s:ResetS):Stp 0 e (afw a b q e s).2:=by
 cases s<;>unfold afw<;>first | exact .lk | exact .pt (by decide)
theorem aI9 {a b:Int}:Stp 0 e (aDC a b e):=.pt (by decide)
theorem ap9:Stp 0 e (ab6 e):=.pt (by decide)
theorem ar7 {t v:Int} (s:PublishS):Stp 0 e (afR t v e s).2:=by
 unfold afR
 split
 ·exact .refl
 ·cases s<;>exact .pt (by decide)
theorem as3 {t:Int} (h:0≤t∧t<(e.recs.length:Int)) (K:Nat) (hK:∀ r∈e.recs,r.kids.length≤K):(e.rc t).kids.length≤K:=by
 refine hK _ ?_
 have h1:=adL (d:=(dfR 26:RecP)) (xs:=e.recs) h
 exact List.mem_of_getElem? h1
theorem anA {w t:Int} (hr:adk t e=true→0≤t∧t<(e.recs.length:Int)):Stp 1 e (aeU w t e):=by
 unfold aeU
 split
 ·rename_i h
  split
  ·exact Stp.cas.em
  ·refine (Stp.cas.pr fun K hK =>?_).em
   exact Nat.le_succ_of_le (as3 (hr h) K hK)
 ·exact Stp.cas.em
theorem aw2 {o:Int}:Stp 0 e (arP o e):=.cas
theorem axb:Stp 0 e (atG e):=.pt (by decide)
theorem anl {d t:Int} (s:InsertS):Stp 0 e (acf d t e s).2:=by
 cases s<;>unfold acf<;>first | exact .lk | exact .pt (by decide)
theorem auY {w:Int} (s:RemoveS):Stp 1 e (acP w e s).2:=by
 cases s<;>unfold acP<;>first | exact Stp.lk.le (by decide) | exact Stp.le (.pt (by decide)) (by decide) | exact Stp.em (.pt (by decide))
theorem aDy {w:Int} (s:SleepS):Stp 1 e (adN w e s).2:=by
 cases s<;>unfold adN<;>repeat' split
 all_goals first | exact Stp.lk.le (by decide) | exact Stp.le (.pt (by decide)) (by decide) | exact Stp.lk.em
theorem aqf [Tb] {w v:Int} (s:WakeS):Stp 1 e (aez w v e s).2:=by
 cases s<;>unfold aez<;>first | exact Stp.lk.le (by decide) | exact Stp.le (.pt (by decide)) (by decide) | exact Stp.em (.pt (by decide))
theorem ayc {w t v:Int} (s:RaiseS):Stp 1 e (aeT w t v e s).2:=by
 unfold aeT
 split
 ·exact Stp.refl.le (by decide)
 ·cases s
  ·exact Stp.lk.le (by decide)
  ·simp only
   split
   ·exact Stp.cas.em
   ·exact Stp.cas.le (by decide)
theorem ayd {w:Int} (s:ProbeS):Stp 0 e (ajR w e s).2:=by
 have key:∀ s i bm,Stp 0 e (ag8 w e s i bm).2:=fun s i bm =>by
  unfold ag8
  split
  ·exact .refl
  ·simp only
   split<;>exact .lk
 cases s
 ·exact key _ _ _
 ·exact key _ _ _
theorem ahl {w v x:Int} (s:LPushS):Stp 0 e (abO w v x e s).2:=by
 cases s with
 | new =>
  have h:=apX (e:=e) (q:=aav e.l w v) (v:=x) .l1
  revert h
  simp only [abO]
  rcases ae3 (aav e.l w v) x e .l1 with ⟨r | ⟨c,y⟩,e'⟩<;>intro h<;>exact h
 | push s =>
  have h:=apX (e:=e) (q:=aav e.l w v) (v:=x) s
  revert h
  simp only [abO]
  rcases ae3 (aav e.l w v) x e s with ⟨r | ⟨c,y⟩,e'⟩<;>intro h<;>exact h
 | set =>exact aI9
theorem aHL {w:Int} (s:LPopS):Stp 0 e (agD w e s).2:=by
 cases s with
 | l1 v =>exact .lk
 | l2 v s =>
  have h:=aBk (e:=e) (q:=aav e.l w v) s
  revert h
  simp only [agD]
  rcases al0 (aav e.l w v) e s with ⟨r | ⟨c,y⟩,e'⟩<;>intro h<;>exact h
 | l3 v s =>
  have h:=ax4 (e:=e) (a:=aaI e.l w) (b:=v) (q:=aav e.l w v) s
  revert h
  simp only [agD]
  rcases afw (aaI e.l w) v (aav e.l w v) e s with ⟨r | ⟨c,y⟩,e'⟩<;>intro h<;>exact h
theorem az7 {w v:Int} (s:WalkS):Stp 1 e (aeL w v e s).2:=by
 cases s with
 | l1 t =>
  by_cases hf:aut e t v
  ·have h:=ayc (e:=e) (w:=w) (t:=t) (v:=v) (.l1 0)
   simp only [aeL,hf,not_true,if_false]
   revert h
   rcases aeT w t v e (.l1 0) with ⟨r | ⟨c,y⟩,e'⟩<;>intro h<;>exact h
  ·simp only [aeL,hf,not_false_eq_true,if_true]
   exact Stp.refl.le (by decide)
 | raise t s =>
  have h:=ayc (e:=e) (w:=w) (t:=t) (v:=v) s
  revert h
  simp only [aeL]
  rcases aeT w t v e s with ⟨r | ⟨c,y⟩,e'⟩<;>intro h<;>exact h
 | l2 t =>exact Stp.lk.le (by decide)
 | push t s =>
  have h:=ahl (e:=e) (w:=w) (v:=v) (x:=t) s
  revert h
  simp only [aeL]
  rcases abO w v t e s with ⟨r | ⟨c,y⟩,e'⟩<;>intro h
  ·exact h.le (by decide)
  ·show Stp 1 e (if c=3 then _ else _)
   split
   ·exact h.em
   ·exact h.le (by decide)
 | l4 t =>exact Stp.lk.le (by decide)
theorem aEP {w t:Int} (s:EnterS):Stp 0 e (adX w t e s).2:=by
 cases s with
 | l1 =>
  by_cases hf:IsT e t
  ·simp only [adX,hf,not_true,if_false]; exact .pt (by decide)
  ·simp only [adX,hf,not_false_eq_true,if_true]; exact .refl
 | l2 =>exact .pt (by decide)
 | l3 =>exact .lk
 | l4 v s =>
  have h:=ahl (e:=e) (w:=w) (v:=v) (x:=t) s
  revert h
  simp only [adX]
  rcases abO w v t e s with ⟨r | ⟨c,y⟩,e'⟩<;>intro h<;>exact h
theorem aDk {w t:Int} (s:SweepS):Stp 1 e (abh w t e s).2:=by
 cases s with
 | l1 =>
  by_cases hf:¬ IsT e t∨e.c.age=0
  ·simp only [abh,hf,if_true]; exact Stp.refl.le (by decide)
  ·simp only [abh,hf,if_false]; exact Stp.lk.le (by decide)
 | l2 =>exact Stp.lk.le (by decide)
 | l3 =>exact Stp.lk.le (by decide)
 | l4 q =>
  by_cases hf:e.hit (ab2 e.l t) q=true
  ·simp only [abh,hf,if_true]; exact Stp.cas.em
  ·simp only [abh,hf,if_false]; exact Stp.cas.le (by decide)
 | l5 q =>exact Stp.le (.pt (by decide)) (by decide)
 | l6 q s =>
  have h:=ahl (e:=e) (w:=w) (v:=wi (wi q+1)) (x:=t) s
  revert h
  simp only [abh]
  rcases abO w (wi (wi q+1)) t e s with ⟨r | ⟨c,y⟩,e'⟩<;>intro h
  ·exact h.le (by decide)
  ·show Stp 1 e (if c=3 then _ else _)
   split
   ·exact h.em
   ·exact h.le (by decide)
theorem aGk {w:Int} (hr:∀ t,adk t e=true→0≤t∧t<(e.recs.length:Int)) (s:TakeS):Stp 1 e (akg w e s).2:=by
 cases s with
 | pop s =>
  have h:=aHL (e:=e) (w:=w) s
  revert h
  simp only [akg]
  rcases agD w e s with ⟨r | ⟨c,y⟩,e'⟩<;>intro h<;>exact h.le (by decide)
 | claim t =>exact anA (hr t)
theorem aET [Tb] {w:Int} (d:DrainS):Stp 1 e (aa8 w e d).2:=by
 obtain ⟨x,b,p,la,n,c⟩:=d
 cases c with
 | l1 =>exact Stp.lk.le (by decide)
 | l2 =>exact aw2.le (by decide)
 | l3 s =>
  have h:=auY (e:=e) (w:=w) s
  revert h
  simp only [aa8]
  rcases acP w e s with ⟨r | ⟨c,y⟩,e'⟩<;>intro h<;>exact h
 | l4 =>exact Stp.lk.le (by decide)
 | l5 s =>
  have h:=ahl (e:=e) (w:=w) (v:=p) (x:=x) s
  revert h
  simp only [aa8]
  rcases abO w p x e s with ⟨r | ⟨c,y⟩,e'⟩<;>intro h<;>exact h.le (by decide)
 | l6 =>exact axb.le (by decide)
 | l7 s =>
  have h:=aqf (e:=e) (w:=w) (v:=la) s
  revert h
  simp only [aa8]
  rcases aez w la e s with ⟨r | ⟨c,y⟩,e'⟩<;>intro h<;>exact h
end
structure EOk (K:Nat) (e:EnvP):Prop where
 dq:0≤e.l.deque∧e.l.deque≤65535
 tk:e.l.tasks=(e.recs.length:Int)
 ct:e.c.tasks=(e.recs.length:Int)
 wk:1≤e.c.workers
 ev:e.evs.length≤K
 kd:∀ r∈e.recs,r.kids.length≤K
section
variable [Tb] {K:Nat} {e:EnvP}
theorem EOk.q (h:EOk K e) (w v:Int):(aav e.l w v).cap≤9223372036854775807:=by
 have:=h.dq
 unfold aav
 repeat' split
 all_goals simp only; omega
theorem EOk.st (h:EOk K e) {t o:Int} (hh:e.hit (aaP e.l t) o=true):0≤t∧t<(e.recs.length:Int):=by
 have h1:0≤aaP e.l t:=by
  have:=of_decide_eq_true hh
  exact this.1.1
 unfold aaP adx atP at h1
 rw [← h.tk]
 split at h1
 ·omega
 ·split at h1<;>omega
theorem EOk.step (h:EOk K e) {j:Nat} {e':EnvP} (s:Stp j e e'):EOk (K+j+1) e':=by
 refine ⟨?_,?_,?_,?_,?_,?_⟩
 ·rw [s.l]; exact h.dq
 ·rw [s.l,s.rl]; exact h.tk
 ·rw [s.c,s.rl]; exact h.ct
 ·rw [s.c]; exact h.wk
 ·have:=s.ev; have:=h.ev; omega
 ·intro r hr
  have:=s.kd K h.kd r hr
  omega
@[reducible] def aqY (l : LayV) (w v x : Int) : LPushS → LPushV MV
 | .new =>⟨o0,w,v,x,1,.nil⟩
 | .push s =>⟨o0,w,v,x,1,.opush (ayv (aav l w v) x s)⟩
 | .set =>⟨o0,w,v,x,2,.set ⟨o0,aaI l w,v⟩⟩
@[reducible] def aHM (l : LayV) (w : Int) : LPopS → LPopV MV
 | .l1 v =>⟨o0,w,v,1,.nil⟩
 | .l2 v s =>⟨o0,w,v,2,.opop (aD9 (aav l w v) s)⟩
 | .l3 v s =>⟨o0,w,v,3,.reset (auX (aaI l w) v (aav l w v) s)⟩
@[reducible] def aGe (l : LayV) (w v : Int) : WalkS → WalkV MV
 | .l1 t =>⟨o0,w,t,v,1,.nil⟩
 | .raise t s =>⟨o0,w,t,v,1,.raise (au6 w t v s)⟩
 | .l2 t =>⟨o0,w,t,v,2,.nil⟩
 | .push t s =>⟨o0,w,t,v,3,.lpush (aqY l w v t s)⟩
 | .l4 t =>⟨o0,w,t,v,4,.nil⟩
@[reducible] def aB2 (l : LayV) (w t : Int) : EnterS → EnterV MV
 | .l1 =>⟨o0,w,t,0,1,.nil⟩
 | .l2 =>⟨o0,w,t,0,2,.nil⟩
 | .l3 =>⟨o0,w,t,0,3,.nil⟩
 | .l4 v s =>⟨o0,w,t,v,4,.lpush (aqY l w v t s)⟩
@[reducible] def ahD (l : LayV) (w t : Int) : SweepS → SweepV MV
 | .l1 =>⟨o0,w,t,1,0,.nil⟩
 | .l2 =>⟨o0,w,t,2,0,.nil⟩
 | .l3 =>⟨o0,w,t,3,0,.nil⟩
 | .l4 q =>⟨o0,w,t,4,q,.nil⟩
 | .l5 q =>⟨o0,w,t,5,q,.nil⟩
 | .l6 q s =>⟨o0,w,t,6,q,.lpush (aqY l w (wi (wi q+1)) t s)⟩
@[reducible] def aGl (l : LayV) (w : Int) : TakeS → TakeV MV
 | .pop s =>⟨o0,w,false,.lpop (aHM l w s)⟩
 | .claim t =>⟨o0,w,true,.claim ⟨o0,w,t⟩⟩
@[reducible] def aB7 (l : LayV) (w p x last : Int) : DrainC → Int × MV
 | .l1 =>(1,.nil)
 | .l2 =>(2,.attempt ⟨o0,w,true⟩)
 | .l3 s =>(3,.remove (as0 w s))
 | .l4 =>(4,.nil)
 | .l5 s =>(5,.lpush (aqY l w p x s))
 | .l6 =>(6,.release ⟨o0⟩)
 | .l7 s =>(7,.wake (auD w last s))
@[reducible] def ayZ (l : LayV) (w : Int) (d : DrainS) : DrainV MV :=
 ⟨o0,w,(aB7 l w d.p d.x d.last d.c).1,(aB7 l w d.p d.x d.last d.c).2,d.x,d.direct,d.p,d.last,d.count⟩
theorem alV:(SR1.spl MV.nil).isNone=true:=rfl
theorem aAw (x:OPushV):(SR1.spl (MV.opush x)).isNone=false:=rfl
theorem aGC (x:SetV):(SR1.spl (MV.set x)).isNone=false:=rfl
theorem aAv (x:RaiseV):(SR1.spl (MV.raise x)).isNone=false:=rfl
theorem akC {w v x:Int} (hK:EOk K e) (s:LPushS):aaY LPushV.o (aqY e.l w v x) (acY (aqY e.l w v x s) e) (abO w v x e s):=by
 have hq:=hK.q w v
 cases s with
 | new =>
  have h:=avh (e:=e) (v:=x) hq .l1
  have hn:=apX (e:=e) (q:=aav e.l w v) (v:=x) .l1
  revert h hn
  simp only [abO,acY,alV,aaw,abx,o0,akx,aqN,akj,Option.bind_some,if_true,Bool.false_eq_true,if_false]
  rcases ae3 (aav e.l w v) x e .l1 with ⟨r | ⟨c,y⟩,e'⟩<;>intro h hn
  ·simp only [aaY,o0] at h
   simp only [h,Option.bind_some,Bool.not_false,if_true]
   rfl
  ·simp only [aaY,o0] at h
   obtain ⟨x',h,ho⟩:=h
   have hnl:e'.l=e.l:=hn.l
   simp only [h,ho,afO,Option.bind_some,Bool.not_true,Bool.false_eq_true,if_false,afx,akT,hnl,reduceIte,Int.reduceEq,aa3]
   exact aaY.ite (fun _ =>⟨_,rfl,rfl⟩) fun _ =>rfl
 | push s =>
  have h:=avh (e:=e) (v:=x) hq s
  have hn:=apX (e:=e) (q:=aav e.l w v) (v:=x) s
  revert h hn
  simp only [abO,acY,aAw,aaw,abx,o0,akj,Option.bind_some,if_true,Bool.false_eq_true,if_false]
  rcases ae3 (aav e.l w v) x e s with ⟨r | ⟨c,y⟩,e'⟩<;>intro h hn
  ·simp only [aaY] at h
   simp only [h,Option.bind_some,Bool.not_false,if_true]
   rfl
  ·simp only [aaY] at h
   obtain ⟨x',h,ho⟩:=h
   have hnl:e'.l=e.l:=hn.l
   simp only [h,ho,afO,Option.bind_some,Bool.not_true,Bool.false_eq_true,if_false,afx,akT,hnl,reduceIte,Int.reduceEq,aa3]
   exact aaY.ite (fun _ =>⟨_,rfl,rfl⟩) fun _ =>rfl
 | set =>
  obtain ⟨y,h,ho⟩:=aGN (e:=e) (a:=aaI e.l w) (b:=v)
  simp only [o0] at h
  simp only [abO,acY,aGC,aaw,abx,o0,akj,h,ho,afO,Option.bind_some,Bool.not_true,if_true,Bool.false_eq_true,if_false,reduceIte,Int.reduceEq]
  exact ⟨_,rfl,rfl⟩
theorem aEw {w:Int} (hK:EOk K e) (s:LPopS):aaY LPopV.o (aHM e.l w) (adB (aHM e.l w s) e) (agD w e s):=by
 cases s with
 | l1 v =>
  simp only [agD,adB,aju,aaw,abx,o0,afx,abU,ayo,akx,atj,Option.bind_some,if_true,Bool.false_eq_true,if_false,aa3,acK]
  exact aaY.ite (fun _ =>⟨_,rfl,rfl⟩) fun _ =>rfl
 | l2 v s =>
  have h:=aD7 (e:=e) (hK.q w v) s
  have hn:=aBk (e:=e) (q:=aav e.l w v) s
  revert h hn
  simp only [agD,adB,aaw,abx,o0,akj,Option.bind_some,if_true,Bool.false_eq_true,if_false,reduceIte,Int.reduceEq]
  rcases al0 (aav e.l w v) e s with ⟨r | ⟨c,y⟩,e'⟩<;>intro h hn
  ·simp only [aaY] at h
   simp only [h,Option.bind_some,Bool.not_false,if_true]
   rfl
  ·simp only [aaY] at h
   obtain ⟨x',h,ho⟩:=h
   have hnl:e'.l=e.l:=hn.l
   simp only [h,ho,afO,Option.bind_some,Bool.not_true,Bool.false_eq_true,if_true,if_false,afx,akx,ahY,hnl,reduceIte,Int.reduceEq,aa3]
   exact aaY.ite (fun _ =>⟨_,rfl,rfl⟩) fun _ =>rfl
 | l3 v s =>
  have h:=auV (e:=e) (a:=aaI e.l w) (b:=v) (q:=aav e.l w v) s
  revert h
  simp only [agD,adB,aaw,abx,o0,akj,Option.bind_some,if_true,Bool.false_eq_true,if_false,reduceIte,Int.reduceEq]
  rcases afw (aaI e.l w) v (aav e.l w v) e s with ⟨r | ⟨c,y⟩,e'⟩<;>intro h
  ·simp only [aaY] at h
   simp only [h,Option.bind_some,Bool.not_false,if_true]
   rfl
  ·simp only [aaY] at h
   obtain ⟨x',h,ho⟩:=h
   simp only [h,ho,afO,Option.bind_some,Bool.not_true,Bool.false_eq_true,if_true,if_false]
   rfl
theorem aC9 {w v:Int} (hK:EOk K e) (hk:K≤100000000) (s:WalkS):aaY WalkV.o (aGe e.l w v) (acp (aGe e.l w v s) e) (aeL w v e s):=by
 have hl:e.evs.length≤999999999:=by have:=hK.ev; omega
 cases s with
 | l1 t =>
  by_cases hf:aut e t v
  ·have h:=au4 (e:=e) (w:=w) (t:=t) (v:=v) hl (.l1 0)
   revert h
   simp only [aeL,hf,acp,ae7,atN,decide_true,not_true,Bool.not_true,alV,aoy,aaw,abx,o0,aes,Option.bind_some,if_true,Bool.false_eq_true,if_false,reduceIte,Int.reduceEq]
   rcases aeT w t v e (.l1 0) with ⟨r | ⟨c,y⟩,e'⟩<;>intro h
   ·simp only [aaY,o0] at h
    simp only [h,Option.bind_some,Bool.not_false,if_true]
    rfl
   ·simp only [aaY,o0] at h
    obtain ⟨x',h,ho⟩:=h
    simp only [h,ho,abS,Option.bind_some,Bool.not_true,Bool.false_eq_true,if_true,if_false,aa3,acK,avF]
    exact aaY.ite (fun _ =>rfl) fun _ =>rfl
  ·simp only [aeL,hf,acp,ae7,atN,decide_false,not_false_eq_true,Bool.not_false,alV,aaw,abx,o0,Option.bind_some,if_true,Bool.false_eq_true,if_false,reduceIte,Int.reduceEq]
   exact ⟨_,rfl,rfl⟩
 | raise t s =>
  have h:=au4 (e:=e) (w:=w) (t:=t) (v:=v) hl s
  revert h
  simp only [aeL,acp,ae7,aAv,aaw,abx,o0,aes,Option.bind_some,if_true,Bool.false_eq_true,if_false,reduceIte,Int.reduceEq]
  rcases aeT w t v e s with ⟨r | ⟨c,y⟩,e'⟩<;>intro h
  ·simp only [aaY] at h
   simp only [h,Option.bind_some,Bool.not_false,if_true]
   rfl
  ·simp only [aaY] at h
   obtain ⟨x',h,ho⟩:=h
   simp only [h,ho,abS,Option.bind_some,Bool.not_true,Bool.false_eq_true,if_true,if_false,aa3,acK,avF]
   exact aaY.ite (fun _ =>rfl) fun _ =>rfl
 | l2 t =>
  simp only [aeL,acp,aaw,abx,o0,afS,abU,ac3,Option.bind_some,if_true,Bool.false_eq_true,if_false,reduceIte,Int.reduceEq,aa3,avF]
  exact aaY.ite (fun _ =>rfl) fun _ =>rfl
 | push t s =>
  have h:=akC (w:=w) (v:=v) (x:=t) hK s
  have hn:=ahl (e:=e) (w:=w) (v:=v) (x:=t) s
  revert h hn
  simp only [aeL,acp,ajK,aaw,abx,o0,aes,Option.bind_some,if_true,Bool.false_eq_true,if_false,reduceIte,Int.reduceEq]
  rcases abO w v t e s with ⟨r | ⟨c,y⟩,e'⟩<;>intro h hn
  ·simp only [aaY] at h
   simp only [h,Option.bind_some,Bool.not_false,if_true]
   rw [← hn.l]
   rfl
  ·simp only [aaY] at h
   obtain ⟨x',h,ho⟩:=h
   have hl':e'.evs.length≤999999999:=by have h1:e'.evs.length≤e.evs.length+0:=hn.ev; have:=hK.ev; omega
   simp only [h,ho,abS,Option.bind_some,Bool.not_true,Bool.false_eq_true,if_true,if_false,acE hl']
   by_cases hc:c=3
   ·simp only [hc,if_true]; rfl
   ·simp only [hc,if_false]; rfl
 | l4 t =>
  simp only [aeL,acp,aaw,abx,o0,amU,abU,Option.bind_some,if_true,Bool.false_eq_true,if_false,reduceIte,Int.reduceEq,aa3]
  exact aaY.ite (fun _ =>⟨_,rfl,rfl⟩) fun _ =>rfl
theorem aB0 {w t:Int} (hK:EOk K e) (s:EnterS):aaY EnterV.o (aB2 e.l w t) (acm (aB2 e.l w t s) e) (adX w t e s):=by
 cases s with
 | l1 =>
  by_cases hf:IsT e t
  ·simp only [adX,hf,acm,akH,decide_true,not_true,Bool.not_true,aaw,abx,aux,o0,aku,abN,Option.bind_some,if_true,Bool.false_eq_true,if_false,reduceIte,Int.reduceEq]
   rfl
  ·simp only [adX,hf,acm,akH,decide_false,not_false_eq_true,Bool.not_false,aaw,abx,o0,Option.bind_some,if_true,Bool.false_eq_true,if_false,reduceIte,Int.reduceEq]
   exact ⟨_,rfl,rfl⟩
 | l2 =>
  simp only [adX,acm,aaw,abx,o0,afS,abN,Option.bind_some,if_true,Bool.false_eq_true,if_false,reduceIte,Int.reduceEq]
  rfl
 | l3 =>
  simp only [adX,acm,aaw,abx,o0,agC,abU,ac3,Option.bind_some,if_true,Bool.false_eq_true,if_false,reduceIte,Int.reduceEq]
  rfl
 | l4 v s =>
  have h:=akC (w:=w) (v:=v) (x:=t) hK s
  have hn:=ahl (e:=e) (w:=w) (v:=v) (x:=t) s
  revert h hn
  simp only [adX,acm,aaw,abx,o0,aes,Option.bind_some,if_true,Bool.false_eq_true,if_false,reduceIte,Int.reduceEq]
  rcases abO w v t e s with ⟨r | ⟨c,y⟩,e'⟩<;>intro h hn
  ·simp only [aaY] at h
   simp only [h,Option.bind_some,Bool.not_false,if_true]
   rfl
  ·simp only [aaY] at h
   obtain ⟨x',h,ho⟩:=h
   simp only [h,ho,abS,Option.bind_some,Bool.not_true,Bool.false_eq_true,if_true,if_false]
   exact ⟨_,rfl,rfl⟩
theorem aDh {w:Int} (hK:EOk K e) (hk:K≤100000000) (s:TakeS):aaY TakeV.o (aGl e.l w) (afv (aGl e.l w s) e) (akg w e s):=by
 have hl:e.evs.length≤999999999:=by have:=hK.ev; omega
 cases s with
 | pop s =>
  have h:=aEw (w:=w) hK s
  revert h
  simp only [akg,afv,aaw,abx,o0,aes,Option.bind_some,if_true,Bool.false_eq_true,if_false]
  rcases agD w e s with ⟨r | ⟨c,y⟩,e'⟩<;>intro h
  ·simp only [aaY] at h
   simp only [h,Option.bind_some,Bool.not_false,if_true]
   rfl
  ·simp only [aaY] at h
   obtain ⟨x',h,ho⟩:=h
   simp only [h,ho,abS,ado,Option.bind_some,Bool.not_true,Bool.false_eq_true,if_true,if_false,aa3]
   exact aaY.ite (fun _ =>⟨_,rfl,rfl⟩) fun _ =>rfl
 | claim t =>
  obtain ⟨x',h,ho⟩:=anz (w:=w) (t:=t) hl hK.st
  simp only [o0] at h
  simp only [akg,afv,aaw,abx,o0,aes,h,Option.bind_some,if_true,Bool.false_eq_true,if_false,abS,Bool.not_true,agE]
  rcases Bool.eq_false_or_eq_true (adk t e) with hc | hc
  ·simp only [hc,if_true] at ho ⊢
   simp only [ho,if_true]
   exact ⟨_,rfl,rfl⟩
  ·simp only [hc,Bool.false_eq_true,if_false] at ho ⊢
   simp only [ho,reduceIte,Int.reduceEq]
   rfl
end
section
variable [Tb] {K:Nat} {e:EnvP}
theorem aDq {w t:Int} (hK:EOk K e) (hk:K≤100000000):aaY SweepV.o (ahD e.l w t) (aaF (ahD e.l w t .l1) e) (abh w t e .l1):=by
 have hl:e.evs.length≤999999999:=by have:=hK.ev; omega
 have hm:∀ m v,aeV { e with m:=m } v=some ((),({ e with m:=m,evs:=e.evs++[v] },())):=fun m v =>acE (e:={ e with m:=m }) hl
 by_cases c1:t<0
 ·have hf:¬ IsT e t∨e.c.age=0:=.inl fun h =>by have:=h.1; omega
  simp only [abh]
  rw [if_pos hf]
  simp only [aaF,abY,c1,aaw,abx,o0,Option.bind_some,Bool.false_eq_true,if_false,reduceIte,Int.reduceEq]
  exact ⟨_,rfl,rfl⟩
 by_cases c2:e.c.tasks≤t
 ·have hf:¬ IsT e t∨e.c.age=0:=.inl fun h =>by have:=h.2; omega
  simp only [abh]
  rw [if_pos hf]
  simp only [aaF,abY,c1,c2,aaw,abx,o0,Option.bind_some,Bool.false_eq_true,if_false,reduceIte,Int.reduceEq]
  exact ⟨_,rfl,rfl⟩
 by_cases c3:e.c.age=0
 ·have hf:¬ IsT e t∨e.c.age=0:=.inr c3
  simp only [abh]
  rw [if_pos hf]
  simp only [aaF,abY,c1,c2,c3,decide_true,aaw,abx,o0,Option.bind_some,Bool.false_eq_true,if_false,reduceIte,Int.reduceEq]
  exact ⟨_,rfl,rfl⟩
 have hf:¬ (¬ IsT e t∨e.c.age=0):=fun h =>h.elim (fun h =>h ⟨by omega,by omega⟩) c3
 simp only [abh]
 rw [if_neg hf]
 simp only [aaF,abY,c1,c2,c3,decide_false,aaw,abx,o0,Option.bind_some,Bool.false_eq_true,if_true,reduceIte,Int.reduceEq,afS,abU,decide_eq_true_eq,aa3]
 refine aaY.iteL (fun h =>?_) fun h =>?_
 ·rw [if_neg h]; exact ⟨_,rfl,rfl⟩
 ·rw [if_pos (Classical.not_not.1 h)]; rfl
theorem aDp {w t:Int} (hK:EOk K e) (hk:K≤100000000):aaY SweepV.o (ahD e.l w t) (aaF (ahD e.l w t .l2) e) (abh w t e .l2):=by
 have hl:e.evs.length≤999999999:=by have:=hK.ev; omega
 have hm:∀ m v,aeV { e with m:=m } v=some ((),({ e with m:=m,evs:=e.evs++[v] },())):=fun m v =>acE (e:={ e with m:=m }) hl
 simp only [abh,aaF,abY,aaw,abx,aux,o0,Option.bind_some,if_true,Bool.false_eq_true,if_false,reduceIte,Int.reduceEq,aku,abU,decide_eq_true_eq,aa3]
 exact aaY.ite (fun _ =>⟨_,rfl,rfl⟩) fun _ =>rfl
theorem aDo {w t:Int} (hK:EOk K e) (hk:K≤100000000):aaY SweepV.o (ahD e.l w t) (aaF (ahD e.l w t .l3) e) (abh w t e .l3):=by
 have hl:e.evs.length≤999999999:=by have:=hK.ev; omega
 have hm:∀ m v,aeV { e with m:=m } v=some ((),({ e with m:=m,evs:=e.evs++[v] },())):=fun m v =>acE (e:={ e with m:=m }) hl
 simp only [abh,aaF,abY,aaw,abx,o0,Option.bind_some,if_true,Bool.false_eq_true,if_false,reduceIte,Int.reduceEq,agC,abU,decide_eq_true_eq,aa3]
 exact aaY.ite (fun _ =>⟨_,rfl,rfl⟩) fun _ =>rfl
theorem aDn {w t:Int} (hK:EOk K e) (hk:K≤100000000) (q:Int):aaY SweepV.o (ahD e.l w t) (aaF (ahD e.l w t (.l4 q)) e) (abh w t e (.l4 q)):=by
 have hl:e.evs.length≤999999999:=by have:=hK.ev; omega
 have hm:∀ m v,aeV { e with m:=m } v=some ((),({ e with m:=m,evs:=e.evs++[v] },())):=fun m v =>acE (e:={ e with m:=m }) hl
 have he:∀ x:SweepV MV,ab7 x 12=some ((⟨12,x.worker,x.task,0,wi (wi x.q+1)⟩,()),(x,())):=fun x =>id rfl
 simp only [abh,aaF,he,aaw,abx,o0,Option.bind_some,if_true,Bool.false_eq_true,if_false,reduceIte,Int.reduceEq,agC,akA,hm]
 exact aaY.iteN (fun _ =>rfl) fun _ =>⟨_,rfl,rfl⟩
theorem aDm {w t:Int} (hK:EOk K e) (hk:K≤100000000) (q:Int):aaY SweepV.o (ahD e.l w t) (aaF (ahD e.l w t (.l5 q)) e) (abh w t e (.l5 q)):=by
 have hl:e.evs.length≤999999999:=by have:=hK.ev; omega
 have hm:∀ m v,aeV { e with m:=m } v=some ((),({ e with m:=m,evs:=e.evs++[v] },())):=fun m v =>acE (e:={ e with m:=m }) hl
 simp only [abh,aaF,aaw,abx,aux,o0,Option.bind_some,if_true,Bool.false_eq_true,if_false,reduceIte,Int.reduceEq,aku,abN,ac3]
 rfl
theorem bnd {α β:Type} {a:α} {f:α→Option β}:(some a).bind f=f a:=by
 generalize h:some a=x
 subst h
 rfl
theorem aDl {w t:Int} (hK:EOk K e) (hk:K≤100000000) (q:Int) (s:LPushS):aaY SweepV.o (ahD e.l w t) (aaF (ahD e.l w t (.l6 q s)) e) (abh w t e (.l6 q s)):=by
 have h:=akC (w:=w) (v:=wi (wi q+1)) (x:=t) hK s
 have hn:=ahl (e:=e) (w:=w) (v:=wi (wi q+1)) (x:=t) s
 have he:∀ x:SweepV MV,ab7 x 19=some ((⟨19,x.worker,x.task,0,wi (wi x.q+1)⟩,()),(x,())):=fun x =>id rfl
 revert h hn
 simp only [abh,aaF,he,bnd,aaw,abx,o0,aes,if_true,Bool.false_eq_true,if_false,reduceIte,Int.reduceEq]
 rcases abO w (wi (wi q+1)) t e s with ⟨r | ⟨c,y⟩,e'⟩<;>intro h hn
 ·simp only [aaY] at h
  simp only [h,bnd,Bool.not_false,if_true]
  rfl
 ·simp only [aaY] at h
  obtain ⟨x',h,ho⟩:=h
  have hl':e'.evs.length≤999999999:=by have h1:e'.evs.length≤e.evs.length+0:=hn.ev; have:=hK.ev; omega
  simp only [h,ho,abS,bnd,Bool.not_true,Bool.false_eq_true,if_true,if_false,acE hl']
  by_cases hc:c=3
  ·simp only [hc,if_true]; exact ⟨_,rfl,rfl⟩
  ·simp only [hc,if_false]; exact ⟨_,rfl,rfl⟩
theorem aAh {w t:Int} (hK:EOk K e) (hk:K≤100000000) (s:SweepS):aaY SweepV.o (ahD e.l w t) (aaF (ahD e.l w t s) e) (abh w t e s):=by
 cases s with
 | l1 =>exact aDq hK hk
 | l2 =>exact aDp hK hk
 | l3 =>exact aDo hK hk
 | l4 q =>exact aDn hK hk q
 | l5 q =>exact aDm hK hk q
 | l6 q s =>exact aDl hK hk q s
end
section
variable [Tb] {K:Nat} {e:EnvP}
theorem aBR {w:Int} {l:LayV} {ln:Int} {m:MV} {d:DrainS} {e':EnvP}:aaY DrainV.o (ayZ l w) (((aa2 ⟨⟨false,0,0⟩,w,ln,m,d.x,d.direct,d.p,d.last,d.count⟩).bind fun r =>some ((r.1.1,()),(r.2.1,e',()))).bind fun r =>some ((r.1.1,()),(r.2.1,r.2.2.1,()))) (anq d,e'):=by
 obtain ⟨x,b,p,la,n,c⟩:=d
 unfold anq
 simp only [aa2,abx,bnd,o0,acK,aa3]
 exact aaY.ite (fun _ =>⟨_,rfl,rfl⟩) fun _ =>aaY.ite (fun _ =>⟨_,rfl,rfl⟩) fun _ =>⟨_,rfl,rfl⟩
def auu (d:DrainS):Prop:=match d.c with
 | .l6 =>True
 | .l7 _ =>True
 | _ =>d.direct=false
theorem aB6 {w:Int} (hK:EOk K e) (hk:K≤100000000) (d:DrainS) (hd:auu d):aaY DrainV.o (ayZ e.l w) (abC (ayZ e.l w d) e) (aa8 w e d):=by
 have hl:e.evs.length≤999999999:=by have:=hK.ev; omega
 obtain ⟨x,b,p,la,n,c⟩:=d
 cases c with
 | l1 =>
  simp only [aa8,abC,aaM,aw3,aaw,abx,ahQ,o0,abU,bnd,if_true,Bool.false_eq_true,if_false,reduceIte,Int.reduceEq,aa3]
  exact aaY.ite (fun _ =>⟨_,rfl,rfl⟩) fun _ =>rfl
 | l2 =>
  obtain ⟨dn,x',h,ho,hd,_⟩:=atx (e:=e) (w:=w) (b:=true)
  rw [Bool.or_true] at hd
  subst hd
  have ho:=ho rfl
  simp only [o0] at h
  simp only [aa8,abC,ade,abF,aaM,agt,aaw,abx,o0,aes,h,bnd,if_true,Bool.false_eq_true,if_false,reduceIte,Int.reduceEq,abS,Bool.not_true]
  rcases Bool.eq_false_or_eq_true (e.hit 1 0) with hh | hh
  ·simp only [hh,if_true] at ho ⊢
   simp only [ho,reduceIte,Int.reduceEq]
   rfl
  ·simp only [hh,Bool.false_eq_true,if_false] at ho ⊢
   simp only [ho,reduceIte,Int.reduceEq]
   exact ⟨_,rfl,rfl⟩
 | l3 s =>
  have h:=azv (e:=e) (w:=w) hl s
  have hn:=auY (e:=e) (w:=w) s
  revert h hn
  simp only [aa8,abC,aaw,abx,o0,aes,bnd,if_true,Bool.false_eq_true,if_false,reduceIte,Int.reduceEq]
  rcases acP w e s with ⟨r | ⟨c,y⟩,e'⟩<;>intro h hn
  ·simp only [aaY] at h
   simp only [h,bnd,Bool.not_false,if_true]
   rfl
  ·simp only [aaY] at h
   obtain ⟨x',h,ho⟩:=h
   simp only [h,ho,abS,ade,aa4,aaM,agc,bnd,Bool.not_true,Bool.false_eq_true,if_true,if_false,reduceIte,Int.reduceEq,acK,aa3]
   exact aaY.ite (fun _ =>rfl) fun _ =>rfl
 | l4 =>
  simp only [aa8,abC,aaM,ac3,aaw,abx,o0,agC,abU,bnd,if_true,Bool.false_eq_true,if_false,reduceIte,Int.reduceEq]
  rfl
 | l5 s =>
  have h:=akC (w:=w) (v:=p) (x:=x) hK s
  have hn:=ahl (e:=e) (w:=w) (v:=p) (x:=x) s
  revert h hn
  simp only [aa8,abC,aaw,abx,o0,aes,bnd,if_true,Bool.false_eq_true,if_false,reduceIte,Int.reduceEq]
  rcases abO w p x e s with ⟨r | ⟨c,y⟩,e'⟩<;>intro h hn
  ·simp only [aaY] at h
   simp only [h,bnd,Bool.not_false,if_true]
   rfl
  ·simp only [aaY] at h
   obtain ⟨x',h,ho⟩:=h
   have hc:e'.c=e.c:=hn.c
   simp only [h,ho,abS,ade,adq,abF,aa4,aaM,agt,agc,bnd,Bool.not_true,Bool.false_eq_true,if_true,if_false,reduceIte,Int.reduceEq,acK,aa3,hc]
   have hb:b=false:=hd
   subst hb
   simp only [Bool.false_eq_true,if_false]
   exact aaY.ite (fun _ =>rfl) fun _ =>aaY.ite (fun _ =>rfl) fun _ =>rfl
 | l6 =>
  obtain ⟨x',h,ho⟩:=ayO (e:=e)
  simp only [o0] at h
  simp only [aa8,abC,ade,aaM,aed,aaw,abx,o0,aes,h,ho,bnd,if_true,Bool.false_eq_true,if_false,reduceIte,Int.reduceEq,abS,Bool.not_true,acK,aa3]
  exact aaY.ite (fun _ =>rfl) fun _ =>aBR (d:=⟨x,b,p,la,n,.l6⟩)
 | l7 s =>
  have h:=amn (e:=e) (w:=w) (v:=la) hl s
  revert h
  simp only [aa8,abC,aaw,abx,o0,aes,bnd,if_true,Bool.false_eq_true,if_false,reduceIte,Int.reduceEq]
  rcases aez w la e s with ⟨r | ⟨c,y⟩,e'⟩<;>intro h
  ·simp only [aaY] at h
   simp only [h,bnd,Bool.not_false,if_true]
   rfl
  ·simp only [aaY] at h
   obtain ⟨x',h,ho⟩:=h
   simp only [h,ho,abS,ade,bnd,Bool.not_true,Bool.false_eq_true,if_true,if_false,reduceIte,Int.reduceEq]
   exact aBR (d:=⟨x,b,p,la,n,.l7 s⟩)
theorem aES {w:Int} {d d':DrainS} {e':EnvP} (hd:auu d) (h:aa8 w e d=(.go d',e')):auu d':=by
 obtain ⟨x,b,p,la,n,c⟩:=d
 cases c with
 | l1 =>
  simp only [aa8] at h
  split at h<;>cases h
  exact hd
 | l2 =>
  simp only [aa8] at h
  split at h<;>cases h
  exact hd
 | l3 s =>
  simp only [aa8] at h
  split at h
  ·cases h; exact hd
  ·split at h<;>cases h
   ·trivial
   ·exact hd
 | l4 =>cases h; exact hd
 | l5 s =>
  simp only [aa8] at h
  split at h
  ·cases h; exact hd
  ·split at h
   ·cases h; trivial
   ·split at h<;>cases h
    ·exact hd
    ·trivial
 | l6 =>
  simp only [aa8] at h
  split at h
  ·cases h; trivial
  ·unfold anq at h
   repeat' split at h
   all_goals cases h
 | l7 s =>
  simp only [aa8] at h
  split at h
  ·cases h; trivial
  ·unfold anq at h
   repeat' split at h
   all_goals cases h
end
end
end Go.Proofs.YtidhehdanppcoaaGreat
