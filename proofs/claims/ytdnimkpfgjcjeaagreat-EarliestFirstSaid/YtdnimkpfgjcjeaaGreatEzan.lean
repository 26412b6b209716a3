/- The program's machines,said plainly: their states,and what a step does. No program occurs here but its numbers. The program's machines do what was said plainly,1: memory,cells,words,the machines that run none inside. The program's machines do what was said plainly,2: probing. What a step of the program's machines leaves of the environment: at most one access,few events,records of the same number. The program's machines do what was said plainly,3: the machines that run others inside. The program's machines do what was said plainly: a sweep. The program's machines do what was said plainly,4: a drain. -/
import Derived.Test.YtdnimkpfgjcjeaaGreatEzal
set_option linter.all false
namespace Go.Proofs.YtdnimkpfgjcjeaaGreat
section
open Go Go.RowKit
inductive Rs (σ:Type) where
 | go (s:σ)
 | fin (c v:Int)
inductive OPushS where
 | l1 | l2 (b:Int) | l3 (b:Int) | l4 (b:Int)
inductive OPopS where
 | l1 | l2 (b:Int) | l3 (b t:Int) | l4 (b t:Int) | l5 (b t:Int) | l6 (b t:Int) | l7 (b t:Int) | l8 (b t:Int) | l9 (b t:Int)
inductive StealS where
 | l1 | l2 (t:Int) | l3 (t:Int) | l4 (t v:Int)
inductive ResetS where
 | l1 | l2 | l3 (b:Int) | l4 (b:Int)
inductive PublishS where
 | l1 | l2 | l3
inductive InsertS where
 | l1 | l2 (n:Int) | l3 (n i k x:Int) | l4 (n i k x:Int) | l5 (n i k x:Int) | l6 (n i k x:Int)
inductive RemoveS where
 | l1 | l2 (n:Int) | l3 (n x:Int) | l4 (n x y:Int) | l5 (n i c x y z:Int) | l6 (n i c x y z:Int) | l7 (n i c x y z:Int) | l8 (n i c x y z:Int)
inductive WakeS where
 | l1 (j:Int) | l2 (j v:Int) | l3 (j v:Int)
inductive SleepS where
 | l1 | l2 (ep:Int) | l3 (ep:Int) | l4 (ep v:Int) | l5 (ep v s:Int) | l6 (ep v s:Int) | l7 (ep v s:Int)
inductive ProbeS where
 | new | run (start next:Int) (bm:B16)
inductive RaiseS where
 | l1 (q:Int) | l2 (q:Int)
inductive LPushS where
 | new | push (s:OPushS) | set
inductive LPopS where
 | l1 (v:Int) | l2 (v:Int) (s:OPopS) | l3 (v:Int) (s:ResetS)
inductive WalkS where
 | l1 (t:Int) | raise (t:Int) (s:RaiseS) | l2 (t:Int) | push (t:Int) (s:LPushS) | l4 (t:Int)
inductive EnterS where
 | l1 | l2 | l3 | l4 (v:Int) (s:LPushS)
inductive SweepS where
 | l1 | l2 | l3 | l4 (q:Int) | l5 (q:Int) | l6 (q:Int) (s:LPushS)
inductive TakeS where
 | pop (s:LPopS) | claim (t:Int)
inductive DrainC where
 | l1 | l2 | l3 (s:RemoveS) | l4 | l5 (s:LPushS) | l6 | l7 (s:WakeS)
structure DrainS where
 x:Int
 direct:Bool
 p:Int
 last:Int
 count:Int
 c:DrainC
inductive RunC where
 | next | s2 (s:PublishS) | s3 (s:LPushS) | s4 (s:WakeS) | s5 | j2 | j3 | j4 | j5 (s:WalkS) | j6 | j7 | f2 | f3 | f4 (s:EnterS) | f5 (v:Int) (s:WakeS) | f6
structure RunS where
 stack:List Int
 id:Int
 child:Int
 level:Int
 waiter:Int
 c:RunC
inductive WorkC where
 | top | t1 (t:Int) (s:SweepS) | t2 (s:TakeS) | t3 (s:DrainS) | t4 (s:ProbeS) | t5 (s:StealS) | t6 | t7 (s:RunS) | t8 (s:SleepS) | t9 (s:ResetS)
structure WorkS where
 cursor:Int
 victim:Int
 level:Int
 x:Int
 c:WorkC
inductive ClieC where
 | n1 | a1 | n2 | n3 | n4 | n5 | n6 | a6 (s:InsertS) | n7 | n8 | n9 | a9 (s:WakeS)
structure ClieS where
 i:Int
 id:Int
 acc:Bool
 c:ClieC
def MemV.gt (m:MemV) (a:Int):Int:=if 0≤a∧a<(m.cells.length:Int) then aeu m.cells a else 0
def MemV.pt (m:MemV) (k a v:Int):MemV:=if 0≤a∧a<(m.cells.length:Int) then ⟨m.cells.set a.toNat v,⟨k,a,aeu m.cells a,v⟩,wi (m.count+1)⟩ else m
def MemV.hit (m:MemV) (a o:Int):Bool:=decide ((0≤a∧a<(m.cells.length:Int))∧aeu m.cells a=o)
def MemV.cas (m:MemV) (a o v:Int):MemV:=m.pt 3 a (if m.gt a=o then v else m.gt a)
abbrev EnvP.gt (e:EnvP) (a:Int):Int:=e.m.gt a
def EnvP.pt (e:EnvP) (k a v:Int):EnvP:={ e with m:=e.m.pt k a v }
def EnvP.lk (e:EnvP) (a:Int):EnvP:={ e with m:=e.m.pt 1 a (e.m.gt a) }
abbrev EnvP.hit (e:EnvP) (a o:Int):Bool:=e.m.hit a o
def EnvP.cas (e:EnvP) (a o v:Int):EnvP:={ e with m:=e.m.cas a o v }
def EnvP.em (e:EnvP) (k w t o l:Int):EnvP:={ e with evs:=e.evs++[⟨k,w,t,o,l⟩] }
def EnvP.rc (e:EnvP) (t:Int):RecP:=aab e.recs t
def EnvP.pr (e:EnvP) (t:Int) (r:RecP):EnvP:={ e with recs:=e.recs.set t.toNat r }
def IsT (e:EnvP) (t:Int):Prop:=0≤t∧t<e.c.tasks
instance (e : EnvP) (t : Int) : Decidable (IsT e t) := inferInstanceAs (Decidable (_ ∧ _))
def axW (e:EnvP) (t v:Int):Prop:=(0≤t∧t<e.c.tasks)∧0≤v∧v<e.c.levels
instance (e : EnvP) (t v : Int) : Decidable (axW e t v) := inferInstanceAs (Decidable (_ ∧ _))
def szP (b t:Int):Int:=wi (wu (b-t))
def ag9 (q:QV) (i:Int):Int:=if q.cap<1 then -1 else wi (q.ring+wi (Int.tmod i (wu q.cap)))
def aAQ (n:Int):Int:=if n<0 then 0 else if 63<n then 0 else wu (1*2 ^ min (wu n).toNat IntKind.u64.bits)
def asb (a n:Int):Int:=if n<1 then 0 else if Int.tmod a n<0 then wi (Int.tmod a n+n) else Int.tmod a n
def atP (i n a w:Int):Int:=if i<0 then -1 else if n≤i then -1 else wi (a+wi (i*w))
def aeH (l:LayV) (t f:Int):Int:=atP t l.tasks (wi (l.table+f)) 5
def adr (l:LayV) (t:Int):Int:=aeH l t 0
def abX (l:LayV) (t:Int):Int:=aeH l t 1
def ag3 (l:LayV) (t:Int):Int:=aeH l t 2
def afJ (l:LayV) (t:Int):Int:=aeH l t 3
def akL (l:LayV) (t:Int):Int:=aeH l t 4
def aeo (l:LayV) (i:Int):Int:=atP i l.heap 4 1
def ago (l:LayV) (w:Int):Int:=atP w l.workers l.epochs 1
def ahF (l:LayV) (k:Int):Int:=atP k l.classes l.sleepers 1
def aaN (l:LayV) (w:Int):Int:=atP w l.workers l.bitmaps 1
def aax (l:LayV) (w v:Int):QV :=
 if atP w l.workers l.queues (wi (l.levels*wi (2+l.deque)))<0 then ⟨-1,-1,-1,0⟩
 else if atP v l.levels (atP w l.workers l.queues (wi (l.levels*wi (2+l.deque)))) (wi (2+l.deque))<0 then ⟨-1,-1,-1,0⟩
 else ⟨atP v l.levels (atP w l.workers l.queues (wi (l.levels*wi (2+l.deque)))) (wi (2+l.deque)),wi (atP v l.levels (atP w l.workers l.queues (wi (l.levels*wi (2+l.deque)))) (wi (2+l.deque))+1),wi (atP v l.levels (atP w l.workers l.queues (wi (l.levels*wi (2+l.deque)))) (wi (2+l.deque))+2),l.deque⟩
def alU (d a t:Int):Int×Bool :=
 if d<0 then (0,false) else if 16777215<d then (0,false) else if a<0 then (0,false) else if 16777215<a then (0,false) else if t<0 then (0,false) else if 65535<t then (0,false)
 else (orU (orU (wu ((wu (d))*2 ^ min (40:Int).toNat IntKind.u64.bits)) (wu ((wu (a))*2 ^ min (16:Int).toNat IntKind.u64.bits))) (wu (t)),true)
def aAc (l n c:Int):Int:=if n<1 then 0 else if 64<n then 0 else if c<1 then 0 else if 8<c then 0 else if l<0 then 0 else if n≤l then 0 else wi (Int.tdiv (wi (l*c)) n)
def apX (k:Int):Int:=wi (aoz k 65535)
noncomputable def asn (x:Int):Int:=match ag8 x with
 | some o =>o.1.1
 | none =>0
def avD (k:ClkV) (n:Int):Int:=asb k.draw n
def afc (q:QV) (v:Int) (e:EnvP):OPushS→Rs OPushS×EnvP
 | .l1 =>(.go (.l2 (e.gt q.bottom)),e.lk q.bottom)
 | .l2 b =>(if q.cap≤szP b (e.gt q.top) then .fin 3 0 else .go (.l3 b),e.lk q.top)
 | .l3 b =>(.go (.l4 b),e.pt 2 (ag9 q b) (wu v))
 | .l4 b =>(.fin 0 0,e.pt 2 q.bottom (wu (b+1)))
def aom (q:QV) (e:EnvP):OPopS→Rs OPopS×EnvP
 | .l1 =>(.go (.l2 (e.gt q.bottom)),e.lk q.bottom)
 | .l2 b =>(if szP b (e.gt q.top)≤0 then .fin 2 0 else .go (.l3 b (e.gt q.top)),e.lk q.top)
 | .l3 b t =>(.go (.l4 b t),e.pt 2 q.bottom (wu (b-1)))
 | .l4 b _ =>(if 0<szP (wu (b-1)) (e.gt q.top) then .go (.l5 b (e.gt q.top)) else if szP (wu (b-1)) (e.gt q.top)=0 then .go (.l6 b (e.gt q.top)) else .go (.l9 b (e.gt q.top)),e.lk q.top)
 | .l5 b _ =>(.fin 1 (wi (e.gt (ag9 q (wu (b-1))))),e.lk (ag9 q (wu (b-1))))
 | .l6 b t =>(if e.hit q.top t=true then .go (.l7 b t) else .go (.l9 b t),e.cas q.top t (wu (t+1)))
 | .l7 b t =>(.go (.l8 b t),e.pt 2 q.bottom b)
 | .l8 b _ =>(.fin 1 (wi (e.gt (ag9 q (wu (b-1))))),e.lk (ag9 q (wu (b-1))))
 | .l9 b _ =>(.fin 2 0,e.pt 2 q.bottom b)
def aiS (q:QV) (e:EnvP):StealS→Rs StealS×EnvP
 | .l1 =>(.go (.l2 (e.gt q.top)),e.lk q.top)
 | .l2 t =>(if szP (e.gt q.bottom) t≤0 then .fin 2 0 else .go (.l3 t),e.lk q.bottom)
 | .l3 t =>(.go (.l4 t (e.gt (ag9 q t))),e.lk (ag9 q t))
 | .l4 t v =>(if e.hit q.top t=true then .fin 1 (wi v) else .fin 4 0,e.cas q.top t (wu (t+1)))
def agm (a b:Int) (q:QV) (e:EnvP):ResetS→Rs ResetS×EnvP
 | .l1 =>(.go .l2,e.pt 5 a (aoz (e.gt a) (aCu (aAQ b))))
 | .l2 =>(.go (.l3 (e.gt q.bottom)),e.lk q.bottom)
 | .l3 x =>(if szP x (e.gt q.top)≤0 then .fin 2 0 else .go (.l4 x),e.lk q.top)
 | .l4 _ =>(.fin 1 0,e.pt 4 a (orU (e.gt a) (aAQ b)))
def aFO (a b:Int) (e:EnvP):EnvP:=e.pt 4 a (orU (e.gt a) (aAQ b))
def aff (e:EnvP):EnvP:=e.pt 6 0 (wu (e.gt 0+1))
def afx (t v:Int) (e:EnvP) (s:PublishS):Rs PublishS×EnvP :=
 if ¬ IsT e t then (.fin 4 0,e)
 else match s with
  | .l1 =>(.go .l2,e.pt 2 (abX e.l t) (wu v))
  | .l2 =>(.go .l3,e.pt 2 (akL e.l t) (wu e.k.now))
  | .l3 =>(.fin 0 0,e.pt 2 (adr e.l t) 1)
def ahn (t:Int) (e:EnvP):Bool:=e.hit (adr e.l t) 1
def ah7 (w t:Int) (e:EnvP):EnvP :=
 if ahn t e=true then
  if (e.rc t).started=true then (e.cas (adr e.l t) 1 2).em 9 w t 0 0 else ((e.cas (adr e.l t) 1 2).pr t { e.rc t with started:=true }).em 5 w t 0 0
 else (e.cas (adr e.l t) 1 2).em 15 w t 0 0
def ang (o:Int) (e:EnvP):EnvP:=e.cas 1 0 (wu (wi (o+1)))
def aqa (e:EnvP):EnvP:=e.pt 2 1 0
def apz (n i k x:Int):InsertS:=if 0<i then .l3 n i k x else .l5 n i k x
abbrev upP (i:Int):Int:=wi (Int.tdiv (wi (i-1)) 2)
def abq (d t:Int) (e:EnvP):InsertS→Rs InsertS×EnvP
 | .l1 =>(if e.c.heap≤wi (e.gt 2) then .fin 3 0 else .go (.l2 (wi (e.gt 2))),e.lk 2)
 | .l2 n =>(if (alU d (wi (e.gt 3)) t).2=true then .go (apz n n (alU d (wi (e.gt 3)) t).1 0) else .fin 4 0,e.pt 6 3 (wu (e.gt 3+1)))
 | .l3 n i k _ =>(if k<e.gt (aeo e.l (upP i)) then .go (.l4 n i k (e.gt (aeo e.l (upP i)))) else .go (.l5 n i k (e.gt (aeo e.l (upP i)))),e.lk (aeo e.l (upP i)))
 | .l4 n i k x =>(.go (apz n (upP i) k x),e.pt 2 (aeo e.l i) x)
 | .l5 n i k x =>(.go (.l6 n i k x),e.pt 2 (aeo e.l i) k)
 | .l6 n _ _ _ =>(.fin 0 0,e.pt 2 2 (wu (wi (n+1))))
def aqr (n i c x y z:Int):RemoveS:=if wi (wi (2*i)+1)<wi (n-1) then .l5 n i c x y z else .l8 n i c x y z
def auq (n i c x y z:Int):RemoveS:=if z<y then .l7 n i c x y z else .l8 n i c x y z
def aby (w:Int) (e:EnvP):RemoveS→Rs RemoveS×EnvP
 | .l1 =>(if wi (e.gt 2)≤0 then .fin 2 0 else .go (.l2 (wi (e.gt 2))),e.lk 2)
 | .l2 n =>(.go (.l3 n (e.gt (aeo e.l 0))),e.lk (aeo e.l 0))
 | .l3 n x =>(.go (.l4 n x (e.gt (aeo e.l (wi (n-1))))),e.lk (aeo e.l (wi (n-1))))
 | .l4 n x y =>(if n=1 then .fin 1 (apX x) else .go (aqr n 0 0 x y 0),(e.pt 2 2 (wu (wi (n-1)))).em 13 w (apX x) 0 0)
 | .l5 n i _ x y _ =>(if wi (wi (wi (2*i)+1)+1)<wi (n-1) then .go (.l6 n i (wi (wi (2*i)+1)) x y (e.gt (aeo e.l (wi (wi (2*i)+1))))) else .go (auq n i (wi (wi (2*i)+1)) x y (e.gt (aeo e.l (wi (wi (2*i)+1))))),e.lk (aeo e.l (wi (wi (2*i)+1))))
 | .l6 n i c x y z =>(if e.gt (aeo e.l (wi (wi (2*i)+2)))<z then .go (auq n i (wi (wi (2*i)+2)) x y (e.gt (aeo e.l (wi (wi (2*i)+2))))) else .go (auq n i c x y z),e.lk (aeo e.l (wi (wi (2*i)+2))))
 | .l7 n i c x y z =>(.go (aqr n c c x y z),e.pt 2 (aeo e.l i) z)
 | .l8 _ i _ x y _ =>(.fin 1 (apX x),e.pt 2 (aeo e.l i) y)
def ahG (w:Int) (e:EnvP):Int:=if e.c.classes<1 then -1 else ahF e.l (asb w e.c.classes)
def agk (w:Int) (e:EnvP):SleepS→Rs SleepS×EnvP
 | .l1 =>(.go (.l2 (e.gt (ago e.l w))),e.lk (ago e.l w))
 | .l2 ep =>(.go (.l3 ep),e.pt 4 (ahG w e) (orU (e.gt (ahG w e)) (aAQ w)))
 | .l3 ep =>(if e.gt 2≠0 then .go (.l7 ep 0 0) else .go (.l4 ep 0),e.lk 2)
 | .l4 ep v =>
  if e.gt (aaN e.l v)≠0 then (.go (.l7 ep v 0),e.lk (aaN e.l v))
  else if e.c.workers≤wi (v+1) then (.go (.l5 ep (wi (v+1)) e.k.now),(e.lk (aaN e.l v)).em 16 w 0 0 0)
  else (.go (.l4 ep (wi (v+1))),e.lk (aaN e.l v))
 | .l5 ep v s =>
  if e.gt (ago e.l w)≠ep then (.go (.l6 ep v s),(e.lk (ago e.l w)).em 17 w 0 1 0)
  else if e.c.patience≤wi (e.k.now-s) then (.go (.l6 ep v s),(e.lk (ago e.l w)).em 17 w 0 2 0)
  else (.go (.l5 ep v s),e.lk (ago e.l w))
 | .l6 _ _ _ =>(.fin 1 0,e.pt 5 (ahG w e) (aoz (e.gt (ahG w e)) (aCu (aAQ w))))
 | .l7 _ _ _ =>(.fin 5 0,e.pt 5 (ahG w e) (aoz (e.gt (ahG w e)) (aCu (aAQ w))))
def amJ (v j:Int) (e:EnvP):Int:=if e.c.classes<1 then -1 else ahF e.l (asb (wi (aAc v e.c.levels e.c.classes+j)) e.c.classes)
noncomputable def aIU [Tb] (x:Int):Int:=if x=0 then -1 else tzV x
noncomputable def aev [Tb] (w v:Int) (e:EnvP):WakeS→Rs WakeS×EnvP
 | .l1 j =>(if e.gt (amJ v j e)≠0 then .go (.l2 j (aIU (e.gt (amJ v j e)))) else if e.c.classes≤wi (j+1) then .fin 2 0 else .go (.l1 (wi (j+1))),e.lk (amJ v j e))
 | .l2 j x =>(if aoz (e.gt (amJ v j e)) (aAQ x)=0 then .fin 4 0 else .go (.l3 j x),e.pt 5 (amJ v j e) (aoz (e.gt (amJ v j e)) (aCu (aAQ x))))
 | .l3 _ x =>(.fin 1 x,(e.pt 6 (ago e.l x) (wu (e.gt (ago e.l x)+1))).em 18 w 0 x 0)
def aew (w t v:Int) (e:EnvP) (s:RaiseS):Rs RaiseS×EnvP :=
 if ¬ axW e t v then (.fin 4 0,e)
 else match s with
  | .l1 _ =>(if v≤wi (e.gt (abX e.l t)) then .fin 0 0 else .go (.l2 (e.gt (abX e.l t))),e.lk (abX e.l t))
  | .l2 q =>if e.hit (abX e.l t) q=true then (.fin 1 0,(e.cas (abX e.l t) q (wu v)).em 11 w t 0 v) else (.go (.l1 q),e.cas (abX e.l t) q (wu v))
def B16.at (b:B16) (i:Int):Int :=
 if i=15 then b.b15 else if i=14 then b.b14 else if i=13 then b.b13 else if i=12 then b.b12 else if i=11 then b.b11 else if i=10 then b.b10 else if i=9 then b.b9 else if i=8 then b.b8
 else if i=7 then b.b7 else if i=6 then b.b6 else if i=5 then b.b5 else if i=4 then b.b4 else if i=3 then b.b3 else if i=2 then b.b2 else if i=1 then b.b1 else b.b0
def B16.put (b:B16) (i v:Int):B16 :=
 if i=15 then { b with b15:=v } else if i=14 then { b with b14:=v } else if i=13 then { b with b13:=v } else if i=12 then { b with b12:=v } else if i=11 then { b with b11:=v } else if i=10 then { b with b10:=v }
 else if i=9 then { b with b9:=v } else if i=8 then { b with b8:=v } else if i=7 then { b with b7:=v } else if i=6 then { b with b6:=v } else if i=5 then { b with b5:=v } else if i=4 then { b with b4:=v }
 else if i=3 then { b with b3:=v } else if i=2 then { b with b2:=v } else if i=1 then { b with b1:=v } else { b with b0:=v }
def aIo:B16:=⟨0,0,0,0,0,0,0,0,0,0,0,0,0,0,0,0⟩
def ab6 (e:EnvP):Int:=if 16<e.c.workers then 16 else e.c.workers
def am7 (w n s i:Int):Int:=if i<n∧Int.tmod (wi (s+i)) n=w then wi (i+1) else i
noncomputable def axz (w n s:Int) (bm:B16):Nat→Int→Int×Int→Int×Int
 | 0,_,r =>r
 | k+1,i,r =>axz w n s bm k (i+1) (if Int.tmod (wi (s+i)) n≠w∧r.2<asn (bm.at (Int.tmod (wi (s+i)) n)) then (Int.tmod (wi (s+i)) n,asn (bm.at (Int.tmod (wi (s+i)) n))) else r)
noncomputable def aqq (w n s:Int) (bm:B16):Int×Int:=axz w n (asb s n) bm n.toNat 0 (-1,-1)
noncomputable def aiW (w:Int) (e:EnvP) (s i:Int) (bm:B16):Rs ProbeS×EnvP :=
 if ab6 e≤am7 w (ab6 e) s i then (.fin 2 0,e)
 else
  let v:=Int.tmod (wi (s+am7 w (ab6 e) s i)) (ab6 e)
  let bm':=bm.put v (e.gt (aaN e.l v))
  let i':=am7 w (ab6 e) s (wi (am7 w (ab6 e) s i+1))
  if ab6 e≤i' then
   (if (aqq w (ab6 e) s bm').1<0 then .fin 2 0 else .fin 1 (wi (wi ((aqq w (ab6 e) s bm').1*64)+(aqq w (ab6 e) s bm').2)),e.lk (aaN e.l v))
  else (.go (.run s i' bm'),e.lk (aaN e.l v))
noncomputable def akP (w:Int) (e:EnvP):ProbeS→Rs ProbeS×EnvP
 | .new =>aiW w e (avD e.k (ab6 e)) 0 aIo
 | .run s i bm =>aiW w e s i bm
def ace (w v x:Int) (e:EnvP):LPushS→Rs LPushS×EnvP
 | .new =>match afc (aax e.l w v) x e .l1 with
  | (.go s,e') =>(.go (.push s),e')
  | (.fin c _,e') =>(if c=3 then .fin 3 0 else .go .set,e')
 | .push s =>match afc (aax e.l w v) x e s with
  | (.go s,e') =>(.go (.push s),e')
  | (.fin c _,e') =>(if c=3 then .fin 3 0 else .go .set,e')
 | .set =>(.fin 0 0,aFO (aaN e.l w) v e)
noncomputable def ahU (w:Int) (e:EnvP):LPopS→Rs LPopS×EnvP
 | .l1 _ =>(if e.gt (aaN e.l w)=0 then .fin 2 0 else .go (.l2 (asn (e.gt (aaN e.l w))) .l1),e.lk (aaN e.l w))
 | .l2 v s =>match aom (aax e.l w v) e s with
  | (.go s,e') =>(.go (.l2 v s),e')
  | (.fin c x,e') =>(if c=1 then .fin 1 x else .go (.l3 v .l1),e')
 | .l3 v s =>match agm (aaN e.l w) v (aax e.l w v) e s with
  | (.go s,e') =>(.go (.l3 v s),e')
  | (.fin _ _,e') =>(.go (.l1 v),e')
def af8 (w v:Int) (e:EnvP):WalkS→Rs WalkS×EnvP
 | .l1 t =>if ¬ axW e t v then (.fin 4 0,e) else match aew w t v e (.l1 0) with
  | (.go s,e') =>(.go (.raise t s),e')
  | (.fin c _,e') =>(.go (if c=1 then .l2 t else .l4 t),e')
 | .raise t s =>match aew w t v e s with
  | (.go s,e') =>(.go (.raise t s),e')
  | (.fin c _,e') =>(.go (if c=1 then .l2 t else .l4 t),e')
 | .l2 t =>(.go (if e.gt (adr e.l t)=1 then .push t .new else .l4 t),e.lk (adr e.l t))
 | .push t s =>match ace w v t e s with
  | (.go s,e') =>(.go (.push t s),e')
  | (.fin c _,e') =>(.go (.l4 t),if c=3 then e'.em 19 w t 0 v else e')
 | .l4 t =>(if e.gt (afJ e.l t)=0 then .fin 0 0 else .go (.l1 (wi (wu (e.gt (afJ e.l t)-1)))),e.lk (afJ e.l t))
def adZ (w t:Int) (e:EnvP):EnterS→Rs EnterS×EnvP
 | .l1 =>if ¬ IsT e t then (.fin 4 0,e) else (.go .l2,e.pt 2 (akL e.l t) (wu e.k.now))
 | .l2 =>(.go .l3,e.pt 2 (adr e.l t) 1)
 | .l3 =>(.go (.l4 (wi (e.gt (abX e.l t))) .new),e.lk (abX e.l t))
 | .l4 v s =>match ace w v t e s with
  | (.go s,e') =>(.go (.l4 v s),e')
  | (.fin c _,e') =>(.fin c v,e')
def abA (w t:Int) (e:EnvP):SweepS→Rs SweepS×EnvP
 | .l1 =>if ¬ IsT e t∨e.c.age=0 then (.fin 0 0,e) else (if e.gt (adr e.l t)=1 then .go .l2 else .fin 0 0,e.lk (adr e.l t))
 | .l2 =>(if wi (e.k.now-wi (e.gt (akL e.l t)))<e.c.age then .fin 0 0 else .go .l3,e.lk (akL e.l t))
 | .l3 =>(if wi (e.c.levels-1)≤wi (e.gt (abX e.l t)) then .fin 0 0 else .go (.l4 (e.gt (abX e.l t))),e.lk (abX e.l t))
 | .l4 q =>if e.hit (abX e.l t) q=true then (.go (.l5 q),(e.cas (abX e.l t) q (wu (q+1))).em 12 w t 0 (wi (wi q+1))) else (.fin 4 0,e.cas (abX e.l t) q (wu (q+1)))
 | .l5 q =>(.go (.l6 q .new),e.pt 2 (akL e.l t) (wu e.k.now))
 | .l6 q s =>match ace w (wi (wi q+1)) t e s with
  | (.go s,e') =>(.go (.l6 q s),e')
  | (.fin c _,e') =>(.fin 1 0,if c=3 then e'.em 19 w t 0 (wi (wi q+1)) else e')
noncomputable def ak0 (w:Int) (e:EnvP):TakeS→Rs TakeS×EnvP
 | .pop s =>match ahU w e s with
  | (.go s,e') =>(.go (.pop s),e')
  | (.fin c x,e') =>(if c=2 then .fin 2 0 else .go (.claim x),e')
 | .claim t =>(if ahn t e=true then .fin 1 t else .go (.pop (.l1 0)),ah7 w t e)
def ah3 (s:DrainS):Rs DrainS:=if s.direct=true then .fin 1 s.x else if 0<s.count then .fin 0 s.count else .fin 2 0
noncomputable def abI [Tb] (w:Int) (e:EnvP) (d:DrainS):Rs DrainS×EnvP :=
 match d.c with
 | .l1 =>(if wi (e.gt 2)≤0 then .fin 2 0 else .go { d with c:=.l2 },e.lk 2)
 | .l2 =>(if e.hit 1 0=true then .go { d with c:=.l3 .l1 } else .fin 5 0,ang w e)
 | .l3 s =>match aby w e s with
  | (.go s,e') =>(.go { d with c:=.l3 s },e')
  | (.fin c x,e') =>(if c=2 then .go { d with c:=.l6 } else .go { d with x:=x,c:=.l4 },e')
 | .l4 =>(.go { d with p:=wi (e.gt (abX e.l d.x)),c:=.l5 .new },e.lk (abX e.l d.x))
 | .l5 s =>match ace w d.p d.x e s with
  | (.go s,e') =>(.go { d with c:=.l5 s },e')
  | (.fin c _,e') =>(if c=3 then .go { d with direct:=true,c:=.l6 } else if wi (d.count+1)<e.c.batch then .go { d with last:=d.p,count:=wi (d.count+1),c:=.l3 .l1 } else .go { d with last:=d.p,count:=wi (d.count+1),c:=.l6 },e')
 | .l6 =>(if 0<d.count then .go { d with c:=.l7 (.l1 0) } else ah3 d,aqa e)
 | .l7 s =>match aev w d.last e s with
  | (.go s,e') =>(.go { d with c:=.l7 s },e')
  | (.fin _ _,e') =>(ah3 d,e')
def aaO (l:List Int):Int:=l.getLast?.getD 0
def ahW (r:RunS) (e:EnvP):Rs RunS×EnvP:=(if r.stack.length=1 then .fin 0 0 else .go { r with stack:=r.stack.dropLast,c:=.next },e)
def axJ (x:RecP) (i:Ins):RecP :=
 if wi ((if x.left=0 then i.a else x.left)-1)=0 then { x with left:=wi ((if x.left=0 then i.a else x.left)-1),pc:=wi (x.pc+1) } else { x with left:=wi ((if x.left=0 then i.a else x.left)-1) }
def EnvP.prog (e:EnvP) (x:RecP):List Ins:=if x.prog<0∨(e.c.progs.length:Int)≤x.prog then [] else atL [] e.c.progs x.prog
def aIO (p t:Int):RecP:=⟨p,t,0,0,-1,[],false⟩
def at3 (w:Int) (e:EnvP) (r:RunS) (t:Int) (x:RecP) (p:List Ins):Rs RunS×EnvP :=
 if x.waiting ≠ -1 then (.go r,(e.pt 2 (afJ e.l t) 0).pr t { x with waiting := -1 })
 else if x.pc<0∨(p.length:Int)≤x.pc then (.go { r with c:=.f2 },e.pt 2 (adr e.l t) 4)
 else if (acu p x.pc).op=0 then (.go r,e.pr t (axJ x (acu p x.pc)))
 else if (acu p x.pc).op=1 then
  if IsT e (wi (e.gt 0)) then (.go { r with id:=wi (e.gt 0),level:=(acu p x.pc).b,c:=.s2 .l1 },((aff e).pr t { x with pc:=wi (x.pc+1),kids:=x.kids++[wi (e.gt 0)] }).pr (wi (e.gt 0)) (aIO (acu p x.pc).a t))
  else (.go r,((aff e).pr t { x with pc:=wi (x.pc+1),kids:=x.kids++[-1] }).em 4 w t 0 0)
 else if (acu p x.pc).a<0∨(x.kids.length:Int)≤(acu p x.pc).a∨ahz x.kids (acu p x.pc).a=-1 then (.go r,e.pr t { x with pc:=wi (x.pc+1) })
 else (.go { r with child:=ahz x.kids (acu p x.pc).a,c:=.j2 },(e.pt 2 (afJ e.l t) (wu (wi (ahz x.kids (acu p x.pc).a+1)))).pr t { x with pc:=wi (x.pc+1),waiting:=ahz x.kids (acu p x.pc).a })
noncomputable def afZ [Tb] (w:Int) (e:EnvP) (r:RunS) (t:Int):Rs RunS×EnvP :=
 match r.c with
 | .next =>at3 w e r t (e.rc t) (e.prog (e.rc t))
 | .s2 s =>match afx r.id r.level e s with
  | (.go s,e') =>(.go { r with c:=.s2 s },e')
  | (.fin _ _,e') =>(.go { r with c:=.s3 .new },e'.em 3 w r.id t r.level)
 | .s3 s =>match ace w r.level r.id e s with
  | (.go s,e') =>(.go { r with c:=.s3 s },e')
  | (.fin c _,e') =>(.go { r with c:=if c=3 then .s5 else .s4 (.l1 0) },e')
 | .s4 s =>match aev w r.level e s with
  | (.go s,e') =>(.go { r with c:=.s4 s },e')
  | (.fin _ _,e') =>(.go { r with c:=.next },e')
 | .s5 =>(.go (if ahn r.id e=true then { r with stack:=r.stack++[r.id],c:=.next } else { r with c:=.next }),ah7 w r.id e)
 | .j2 =>(.go { r with c:=.j3 },e.pt 2 (adr e.l t) 3)
 | .j3 =>if e.hit (ag3 e.l r.child) 0=true then (.go { r with c:=.j4 },(e.cas (ag3 e.l r.child) 0 (wu (wi (t+1)))).em 6 w t r.child 0) else (.go { r with c:=.j6 },e.cas (ag3 e.l r.child) 0 (wu (wi (t+1))))
 | .j4 =>(.go { r with level:=wi (e.gt (abX e.l t)),c:=.j5 (.l1 r.child) },e.lk (abX e.l t))
 | .j5 s =>match af8 w r.level e s with
  | (.go s,e') =>(.go { r with c:=.j5 s },e')
  | (.fin _ _,e') =>ahW r (e'.em 7 w t 0 r.level)
 | .j6 =>(.go { r with c:=.j7 },e.pt 2 (adr e.l t) 2)
 | .j7 =>(.go { r with c:=.next },((e.pt 2 (afJ e.l t) 0).pr t { e.rc t with waiting := -1 }).em 8 w t r.child 0)
 | .f2 =>if e.hit (ag3 e.l t) 0=true then ahW r ((e.cas (ag3 e.l t) 0 4294967296).em 10 w t 0 0) else (.go { r with c:=.f3 },(e.cas (ag3 e.l t) 0 4294967296).em 10 w t 0 0)
 | .f3 =>if IsT e (wi (wi (e.gt (ag3 e.l t))-1)) then (.go { r with waiter:=wi (wi (e.gt (ag3 e.l t))-1),c:=.f4 .l1 },e.lk (ag3 e.l t)) else ahW { r with waiter:=wi (wi (e.gt (ag3 e.l t))-1) } (e.lk (ag3 e.l t))
 | .f4 s =>match adZ w r.waiter e s with
  | (.go s,e') =>(.go { r with c:=.f4 s },e')
  | (.fin c v,e') =>(.go { r with c:=if c=3 then .f6 else .f5 v (.l1 0) },e')
 | .f5 v s =>match aev w v e s with
  | (.go s,e') =>(.go { r with c:=.f5 v s },e')
  | (.fin _ _,e') =>ahW r e'
 | .f6 =>if ahn r.waiter e=true then (.go { r with stack:=r.stack.dropLast++[r.waiter],c:=.next },ah7 w r.waiter e) else ahW r (ah7 w r.waiter e)
noncomputable def au2 [Tb] (w:Int) (e:EnvP) (r:RunS):Rs RunS×EnvP:=if ¬ IsT e (aaO r.stack) then (.fin 4 0,e) else afZ w e r (aaO r.stack)
def aFP (t:Int):RunS:=⟨[t],0,0,0,0,.next⟩
def aDg:DrainS:=⟨0,false,0,0,0,.l1⟩
def atl:TakeS:=.pop (.l1 0)
def acb (w:Int) (e:EnvP) (k:WorkS):WorkC:=match k.c with
 | .top =>if e.c.age=0 then .t2 atl else .t1 (asb (wi (asb w e.c.tasks+k.cursor)) e.c.tasks) .l1
 | c =>c
def ap3 (e:EnvP):WorkC:=if e.c.workers=1 then .t8 .l1 else .t4 .new
noncomputable def acZ [Tb] (w:Int) (e:EnvP) (k:WorkS):WorkS×EnvP :=
 match acb w e k with
 | .top =>(k,e)
 | .t1 t s =>match abA w t e s with
  | (.go s,e') =>({ k with c:=.t1 t s },e')
  | (.fin _ _,e') =>({ k with cursor:=wi (k.cursor+1),c:=.t2 atl },e')
 | .t2 s =>match ak0 w e s with
  | (.go s,e') =>({ k with c:=.t2 s },e')
  | (.fin c x,e') =>(if c=1 then { k with x:=x,c:=.t7 (aFP x) } else { k with c:=.t3 aDg },e')
 | .t3 s =>match abI w e s with
  | (.go s,e') =>({ k with c:=.t3 s },e')
  | (.fin c x,e') =>(if c=1 then { k with x:=x,c:=.t6 } else if c=0 then { k with c:=.t2 atl } else { k with c:=ap3 e' },e')
 | .t4 s =>match akP w e s with
  | (.go s,e') =>({ k with c:=.t4 s },e')
  | (.fin c x,e') =>(if c=2 then { k with c:=.t8 .l1 } else { k with victim:=wi (Int.tdiv x 64),level:=Int.tmod x 64,c:=.t5 .l1 },e')
 | .t5 s =>match aiS (aax e.l k.victim k.level) e s with
  | (.go s,e') =>({ k with c:=.t5 s },e')
  | (.fin c x,e') =>if c=1 then ({ k with x:=x,c:=.t6 },e'.em 14 w x k.victim k.level) else if c=2 then ({ k with c:=.t9 .l1 },e') else ({ k with c:=.top },e')
 | .t6 =>(if ahn k.x e=true then { k with c:=.t7 (aFP k.x) } else { k with c:=.top },ah7 w k.x e)
 | .t7 s =>match au2 w e s with
  | (.go s,e') =>({ k with c:=.t7 s },e')
  | (.fin _ _,e') =>({ k with c:=.top },e')
 | .t8 s =>match agk w e s with
  | (.go s,e') =>({ k with c:=.t8 s },e')
  | (.fin _ _,e') =>({ k with c:=.top },e')
 | .t9 s =>match agm (aaN e.l k.victim) k.level (aax e.l k.victim k.level) e s with
  | (.go s,e') =>({ k with c:=.t9 s },e')
  | (.fin _ _,e') =>({ k with c:=.top },e')
def aAa (subs:List Sub) (k:ClieS) (e:EnvP):Bool×ClieS×EnvP:=(decide ((subs.length:Int)≤wi (k.i+1)),{ k with i:=wi (k.i+1),acc:=false,c:=.n1 },e)
noncomputable def adk [Tb] (subs:List Sub) (me:Int) (e:EnvP) (k:ClieS) (s:Sub):Bool×ClieS×EnvP :=
 match k.c with
 | .n1 =>(false,{ k with c:=if e.hit 1 0=true then .n2 else .a1 },ang me e)
 | .a1 =>(false,{ k with c:=if e.hit 1 0=true then .n2 else .a1 },ang me e)
 | .n2 =>if e.c.heap≤wi (e.gt 2) then (false,{ k with c:=.n8 },(e.lk 2).em 2 me 0 k.i 1) else (false,{ k with c:=.n3 },e.lk 2)
 | .n3 =>if IsT e (wi (e.gt 0)) then (false,{ k with id:=wi (e.gt 0),c:=.n4 },(aff e).pr (wi (e.gt 0)) (aIO s.prog (-1))) else (false,{ k with c:=.n8 },(aff e).em 2 me 0 k.i 2)
 | .n4 =>(false,{ k with c:=.n5 },e.pt 2 (abX e.l k.id) (wu s.level))
 | .n5 =>(false,{ k with c:=.n6 },e.pt 2 (akL e.l k.id) (wu e.k.now))
 | .n6 =>match abq s.deadline k.id e .l1 with
  | (.go t,e') =>(false,{ k with c:=.a6 t },e')
  | (.fin c _,e') =>if c=0 then (false,{ k with acc:=true,c:=.n7 },e'.em 1 me k.id k.i s.level) else (false,{ k with c:=.n8 },e')
 | .a6 t =>match abq s.deadline k.id e t with
  | (.go t,e') =>(false,{ k with c:=.a6 t },e')
  | (.fin c _,e') =>if c=0 then (false,{ k with acc:=true,c:=.n7 },e'.em 1 me k.id k.i s.level) else (false,{ k with c:=.n8 },e')
 | .n7 =>(false,{ k with c:=.n8 },e.pt 2 (adr e.l k.id) 1)
 | .n8 =>if k.acc=true then (false,{ k with c:=.n9 },aqa e) else aAa subs k (aqa e)
 | .n9 =>match aev me s.level e (.l1 0) with
  | (.go t,e') =>(false,{ k with c:=.a9 t },e')
  | (.fin _ _,e') =>aAa subs k e'
 | .a9 t =>match aev me s.level e t with
  | (.go t,e') =>(false,{ k with c:=.a9 t },e')
  | (.fin _ _,e') =>aAa subs k e'
noncomputable def anq [Tb] (subs:List Sub) (me:Int) (e:EnvP) (k:ClieS):Bool×ClieS×EnvP :=
 if (subs.length:Int)≤k.i then (true,k,e) else adk subs me e k (abf subs k.i)
end
section
open Go Go.RowKit
set_option maxRecDepth 100000
theorem aAq {α:Type} {d:α} {xs:List α} {a:Int} {x:α} (h:0≤a∧a<(xs.length:Int)):atL d (xs.set a.toNat x) a=x:=by
 have:a.toNat<xs.length:=by omega
 simp [atL,this]
theorem ajX {cs:List Int} {a x:Int} (h:0≤a∧a<(cs.length:Int)):aeu (cs.set a.toNat x) a=x:=aAq h
theorem aF6 {x:Int} (h:¬ x<1) (h2:x≤9223372036854775807):wu x≠0:=by
 simp only [wu,IntKind.wrap,IntKind.bits,IntKind.signed]
 simp
 omega
theorem aF7 (a:Int):0≤wu a∧wu a≤18446744073709551615:=by
 simp only [wu,IntKind.wrap,IntKind.bits,IntKind.signed]
 simp
 omega
section
variable {m:MemV} {a o v:Int}
theorem abx:acG m a=some ((m.gt a,()),(m.pt 1 a (m.gt a),())):=by
 unfold acG MemV.gt MemV.pt
 by_cases h:0≤a∧a<(m.cells.length:Int)
 ·have h1:¬ a<0:=by omega
  have h2:¬ ((m.cells.length:Nat):Int)≤a:=by omega
  simp only [h1,h2,h,and_self,if_true,if_false,List.length_set,ajX h]
 ·by_cases h1:a<0
  ·simp only [h1,h,if_true,if_false]
  ·have h2:((m.cells.length:Nat):Int)≤a:=by omega
   simp only [h1,h2,h,if_true,if_false]
theorem abt:aa3 m a v=some ((),(m.pt 2 a v,())):=by
 unfold aa3 MemV.pt
 by_cases h:0≤a∧a<(m.cells.length:Int)
 ·have h1:¬ a<0:=by omega
  have h2:¬ ((m.cells.length:Nat):Int)≤a:=by omega
  simp only [h1,h2,h,and_self,if_true,if_false,List.length_set,ajX h]
 ·by_cases h1:a<0
  ·simp only [h1,h,if_true,if_false]
  ·have h2:((m.cells.length:Nat):Int)≤a:=by omega
   simp only [h1,h2,h,if_true,if_false]
theorem ajB:atb m a o v=some ((m.hit a o,()),(m.cas a o v,())):=by
 unfold atb MemV.hit MemV.cas MemV.pt MemV.gt
 by_cases h:0≤a∧a<(m.cells.length:Int)
 ·have h1:¬ a<0:=by omega
  have h2:¬ ((m.cells.length:Nat):Int)≤a:=by omega
  by_cases hc:aeu m.cells a=o
  ·simp only [h1,h2,h,hc,and_self,if_true,if_false,List.length_set,ajX h]
  ·simp only [h1,h2,h,hc,and_self,if_true,if_false,List.length_set,ajX h,and_false]
 ·by_cases h1:a<0
  ·simp only [h1,h,if_true,if_false,false_and,decide_false]
  ·have h2:((m.cells.length:Nat):Int)≤a:=by omega
   simp only [h1,h2,h,if_true,if_false,false_and,decide_false]
theorem awv:pOr m a v=some ((m.gt a,()),(m.pt 4 a (orU (m.gt a) v),())):=by
 unfold pOr MemV.gt MemV.pt
 by_cases h:0≤a∧a<(m.cells.length:Int)
 ·have h1:¬ a<0:=by omega
  have h2:¬ ((m.cells.length:Nat):Int)≤a:=by omega
  simp only [h1,h2,h,and_self,if_true,if_false,List.length_set,ajX h]
 ·by_cases h1:a<0
  ·simp only [h1,h,if_true,if_false]
  ·have h2:((m.cells.length:Nat):Int)≤a:=by omega
   simp only [h1,h2,h,if_true,if_false]
theorem apF:aC0 m a v=some ((m.gt a,()),(m.pt 5 a (aoz (m.gt a) v),())):=by
 unfold aC0 MemV.gt MemV.pt
 by_cases h:0≤a∧a<(m.cells.length:Int)
 ·have h1:¬ a<0:=by omega
  have h2:¬ ((m.cells.length:Nat):Int)≤a:=by omega
  simp only [h1,h2,h,and_self,if_true,if_false,List.length_set,ajX h]
 ·by_cases h1:a<0
  ·simp only [h1,h,if_true,if_false]
  ·have h2:((m.cells.length:Nat):Int)≤a:=by omega
   simp only [h1,h2,h,if_true,if_false]
theorem ar5:aFR m a v=some ((m.gt a,()),(m.pt 6 a (wu (m.gt a+v)),())):=by
 unfold aFR MemV.gt MemV.pt
 by_cases h:0≤a∧a<(m.cells.length:Int)
 ·have h1:¬ a<0:=by omega
  have h2:¬ ((m.cells.length:Nat):Int)≤a:=by omega
  simp only [h1,h2,h,and_self,if_true,if_false,List.length_set,ajX h]
 ·by_cases h1:a<0
  ·simp only [h1,h,if_true,if_false]
  ·have h2:((m.cells.length:Nat):Int)≤a:=by omega
   simp only [h1,h2,h,if_true,if_false]
end
theorem ana {a n:Int}:aAL a n=some ((asb a n,()),()):=by
 unfold aAL asb
 by_cases h:n<1
 ·rw [if_pos h,if_pos h]
 ·rw [if_neg h,if_neg h,if_pos (show n≠0 by omega)]
  split<;>rfl
theorem aBG {k:ClkV} {n:Int}:aBH k n=some ((avD k n,()),(k,())):=by
 unfold aBH avD asb
 by_cases h:n<1
 ·rw [if_pos h,if_pos h]
 ·rw [if_neg h,if_neg h,if_pos (show n≠0 by omega)]
  split<;>rfl
theorem anb {n:Int}:aAM n=some ((aAQ n,()),()):=by
 unfold aAM aAQ
 rw [if_pos (aF7 n).1]
 split
 ·rfl
 ·split<;>rfl
theorem ar2 {q:QV} {i:Int} (h:q.cap≤9223372036854775807):avg q i=some ((ag9 q i,()),()):=by
 unfold avg ag9
 by_cases h1:q.cap<1
 ·rw [if_pos h1,if_pos h1]
 ·rw [if_neg h1,if_neg h1,if_pos (aF6 h1 h)]
theorem aoL {b t:Int}:avb b t=some ((szP b t,()),()):=rfl
theorem aq5 {i n a w:Int}:pAt i n a w=some ((atP i n a w,()),()):=by
 unfold pAt atP
 split
 ·rfl
 ·split<;>rfl
theorem alX {l:LayV} {t f:Int}:atR l t f=some ((aeH l t f,()),()):=by unfold atR; rw [aq5]; rfl
theorem ae0 {l:LayV} {t:Int}:ad8 l t=some ((adr l t,()),()):=by unfold ad8; rw [alX]; rfl
theorem afM {l:LayV} {t:Int}:afb l t=some ((abX l t,()),()):=by unfold afb; rw [alX]; rfl
theorem ajw {l:LayV} {t:Int}:aiX l t=some ((akL l t,()),()):=by unfold aiX; rw [alX]; rfl
theorem alV {l:LayV} {t:Int}:aju l t=some ((afJ l t,()),()):=by unfold aju; rw [alX]; rfl
theorem arZ {l:LayV} {t:Int}:aok l t=some ((ag3 l t,()),()):=by unfold aok; rw [alX]; rfl
theorem awu {l:LayV} {t:Int}:aoj l t=some ((aeo l t,()),()):=by unfold aoj; rw [aq5]; rfl
theorem alZ {l:LayV} {t:Int}:aq3 l t=some ((ago l t,()),()):=by unfold aq3; rw [aq5]; rfl
theorem ahf {l:LayV} {t:Int}:agX l t=some ((ahF l t,()),()):=by unfold agX; rw [aq5]; rfl
theorem aeN {l:LayV} {t:Int}:ahs l t=some ((aaN l t,()),()):=by unfold ahs; rw [aq5]; rfl
theorem ajy {l:LayV} {w v:Int}:agY l w v=some ((aax l w v,()),()):=by
 unfold agY aax
 simp only [aq5,Option.bind_some]
 split
 ·rfl
 ·split<;>rfl
theorem aBz {d a t:Int}:aBA d a t=some (((alU d a t).1,(alU d a t).2,()),()):=by
 unfold aBA alU
 repeat' split
 all_goals rfl
theorem atT {l n c:Int}:atU l n c=some ((aAc l n c,()),()):=by
 unfold atU aAc
 by_cases h:n<1
 ·rw [if_pos h,if_pos h]
 ·rw [if_neg h,if_neg h,if_pos (show n≠0 by omega)]
  repeat' split
  all_goals rfl
theorem aIw (a:Int):0≤IntKind.u8.wrap a∧IntKind.u8.wrap a<256:=by
 simp only [IntKind.wrap,IntKind.bits,IntKind.signed]
 simp
 omega
theorem awA {x:Int}:ag8 x=some ((asn x,()),()):=by
 have h:∃ y,ag8 x=some ((y,()),()):=by
  have hs:((ajj.size:Nat):Int)=256:=rfl
  unfold ag8
  simp only [hs,aIw,and_self,if_true]
  repeat' split
  all_goals exact ⟨_,rfl⟩
 obtain ⟨y,hy⟩:=h
 unfold asn
 rw [hy]
theorem ayS [Tb] {x:Int}:aH9 x=some ((aIU x,()),()):=by
 unfold aH9 aIU
 split<;>rfl
theorem acj {e:EnvP} {v:Ev} (h:e.evs.length≤999999999):aep e v=some ((),({ e with evs:=e.evs++[v] },())):=by
 unfold aep
 rw [if_pos (by rw [List.length_singleton]; omega)]
@[reducible] def o0 : OutV := ⟨false,0,0⟩
@[reducible] def awH (q : QV) (v : Int) : OPushS → OPushV
 | .l1 =>⟨o0,q,v,1,0⟩
 | .l2 b =>⟨o0,q,v,2,b⟩
 | .l3 b =>⟨o0,q,v,3,b⟩
 | .l4 b =>⟨o0,q,v,4,b⟩
@[reducible] def aBK (q : QV) : OPopS → OPopV
 | .l1 =>⟨o0,q,1,0,0⟩
 | .l2 b =>⟨o0,q,2,b,0⟩
 | .l3 b t =>⟨o0,q,3,b,t⟩
 | .l4 b t =>⟨o0,q,4,b,t⟩
 | .l5 b t =>⟨o0,q,5,b,t⟩
 | .l6 b t =>⟨o0,q,6,b,t⟩
 | .l7 b t =>⟨o0,q,7,b,t⟩
 | .l8 b t =>⟨o0,q,8,b,t⟩
 | .l9 b t =>⟨o0,q,9,b,t⟩
@[reducible] def av9 (q : QV) : StealS → StealV
 | .l1 =>⟨o0,q,1,0,0⟩
 | .l2 t =>⟨o0,q,2,t,0⟩
 | .l3 t =>⟨o0,q,3,t,0⟩
 | .l4 t v =>⟨o0,q,4,t,v⟩
@[reducible] def atC (a b : Int) (q : QV) : ResetS → ResetV
 | .l1 =>⟨o0,a,b,q,1,0⟩
 | .l2 =>⟨o0,a,b,q,2,0⟩
 | .l3 x =>⟨o0,a,b,q,3,x⟩
 | .l4 x =>⟨o0,a,b,q,4,x⟩
@[reducible] def alO (t v : Int) : PublishS → PublishV
 | .l1 =>⟨o0,t,v,1⟩
 | .l2 =>⟨o0,t,v,2⟩
 | .l3 =>⟨o0,t,v,3⟩
@[reducible] def ask (d t : Int) : InsertS → InsertV
 | .l1 =>⟨o0,d,t,1,0,0,0,0⟩
 | .l2 n =>⟨o0,d,t,2,n,0,0,0⟩
 | .l3 n i k x =>⟨o0,d,t,3,n,i,k,x⟩
 | .l4 n i k x =>⟨o0,d,t,4,n,i,k,x⟩
 | .l5 n i k x =>⟨o0,d,t,5,n,i,k,x⟩
 | .l6 n i k x =>⟨o0,d,t,6,n,i,k,x⟩
@[reducible] def arL (w : Int) : RemoveS → RemoveV
 | .l1 =>⟨o0,w,1,0,0,0,0,0,0⟩
 | .l2 n =>⟨o0,w,2,n,0,0,0,0,0⟩
 | .l3 n x =>⟨o0,w,3,n,0,0,x,0,0⟩
 | .l4 n x y =>⟨o0,w,4,n,0,0,x,y,0⟩
 | .l5 n i c x y z =>⟨o0,w,5,n,i,c,x,y,z⟩
 | .l6 n i c x y z =>⟨o0,w,6,n,i,c,x,y,z⟩
 | .l7 n i c x y z =>⟨o0,w,7,n,i,c,x,y,z⟩
 | .l8 n i c x y z =>⟨o0,w,8,n,i,c,x,y,z⟩
@[reducible] def atj (w v : Int) : WakeS → WakeV
 | .l1 j =>⟨o0,w,v,1,j,0⟩
 | .l2 j x =>⟨o0,w,v,2,j,x⟩
 | .l3 j x =>⟨o0,w,v,3,j,x⟩
@[reducible] def atq (w : Int) : SleepS → SleepV
 | .l1 =>⟨o0,w,1,0,0,0⟩
 | .l2 ep =>⟨o0,w,2,ep,0,0⟩
 | .l3 ep =>⟨o0,w,3,ep,0,0⟩
 | .l4 ep v =>⟨o0,w,4,ep,v,0⟩
 | .l5 ep v s =>⟨o0,w,5,ep,v,s⟩
 | .l6 ep v s =>⟨o0,w,6,ep,v,s⟩
 | .l7 ep v s =>⟨o0,w,7,ep,v,s⟩
@[reducible] def alR (w : Int) : ProbeS → ProbeV
 | .new =>⟨o0,w,false,0,0,aIo⟩
 | .run s i bm =>⟨o0,w,true,s,i,bm⟩
@[reducible] def atK (w t v : Int) : RaiseS → RaiseV
 | .l1 q =>⟨o0,w,t,v,1,q⟩
 | .l2 q =>⟨o0,w,t,v,2,q⟩
def aaW {σ X:Type} (og:X→OutV) (mk:σ→X) (res:Option ((Bool×Unit)×(X×EnvP×Unit))) (r:Rs σ×EnvP):Prop :=
 match r with
 | (.go s,e) =>res=some ((false,()),(mk s,e,()))
 | (.fin c v,e) =>∃ x,res=some ((true,()),(x,e,()))∧og x=⟨true,c,v⟩
section
variable {σ X:Type} {og:X→OutV} {mk:σ→X} {a b:Option ((Bool×Unit)×(X×EnvP×Unit))} {r s:Rs σ×EnvP}
theorem aaW.ite {c:Prop} [Decidable c] (h1:c→aaW og mk a r) (h2:¬ c→aaW og mk b s):aaW og mk (if c then a else b) (if c then r else s):=by
 by_cases h:c
 ·rw [if_pos h,if_pos h]; exact h1 h
 ·rw [if_neg h,if_neg h]; exact h2 h
theorem aaW.iteN {c:Bool} (h1:c=true→aaW og mk b r) (h2:c=false→aaW og mk a s):aaW og mk (if (!c)=true then a else b) (if c=true then r else s):=by
 cases c
 ·exact h2 rfl
 ·exact h1 rfl
theorem aaW.iteL {c:Prop} [Decidable c] (h1:c→aaW og mk a r) (h2:¬ c→aaW og mk b r):aaW og mk (if c then a else b) r:=by
 by_cases h:c
 ·rw [if_pos h]; exact h1 h
 ·rw [if_neg h]; exact h2 h
theorem aa1 {c:Prop} [Decidable c] {x y:Rs σ} {e:EnvP}:((if c then x else y),e)=if c then (x,e) else (y,e):=by split<;>rfl
theorem auh {c:Prop} [Decidable c] {x y:σ}:Rs.go (if c then x else y)=if c then Rs.go x else Rs.go y:=by split<;>rfl
end
theorem acn {α β:Type} {c:Prop} [Decidable c] {x y:Option α} {f:α→Option β}:(if c then x else y).bind f=if c then x.bind f else y.bind f:=by split<;>rfl
section
variable {e:EnvP}
theorem atX {q:QV} {v:Int} (hq:q.cap≤9223372036854775807) (s:OPushS):aaW OPushV.o (awH q v) (adF (awH q v s) e) (afc q v e s):=by
 cases s<;>simp only [adF,awH,afc,aav,abh,o0,abx,abt,aoL,ar2 hq,Option.bind_some,Bool.false_eq_true,if_true,if_false,reduceIte,Int.reduceEq,aa1]
 all_goals repeat' first | with_reducible refine aaW.ite (fun _ =>?_) fun _ =>?_ | with_reducible refine aaW.iteN (fun _ =>?_) fun _ =>?_
 all_goals first | rfl | exact ⟨_,rfl,rfl⟩
theorem aBJ {q:QV} (hq:q.cap≤9223372036854775807) (s:OPopS):aaW OPopV.o (aBK q) (ad9 (aBK q s) e) (aom q e s):=by
 cases s<;>simp only [ad9,aht,aBK,aom,aav,abh,o0,abx,abt,ajB,aoL,ar2 hq,Option.bind_some,Bool.false_eq_true,if_true,if_false,reduceIte,Int.reduceEq,aa1,acn]
 all_goals repeat' first | with_reducible refine aaW.ite (fun _ =>?_) fun _ =>?_ | with_reducible refine aaW.iteN (fun _ =>?_) fun _ =>?_
 all_goals first | rfl | exact ⟨_,rfl,rfl⟩
theorem ax9 {q:QV} (hq:q.cap≤9223372036854775807) (s:StealS):aaW StealV.o (av9 q) (adg (av9 q s) e) (aiS q e s):=by
 cases s<;>simp only [adg,av9,aiS,aav,abh,o0,abx,abt,ajB,aoL,ar2 hq,Option.bind_some,Bool.false_eq_true,if_true,if_false,reduceIte,Int.reduceEq,aa1]
 all_goals repeat' first | with_reducible refine aaW.ite (fun _ =>?_) fun _ =>?_ | with_reducible refine aaW.iteN (fun _ =>?_) fun _ =>?_
 all_goals first | rfl | exact ⟨_,rfl,rfl⟩
theorem atB {a b:Int} {q:QV} (s:ResetS):aaW ResetV.o (atC a b q) (acU (atC a b q s) e) (agm a b q e s):=by
 cases s<;>simp only [acU,atC,agm,aav,abh,o0,abx,abt,apF,awv,anb,aoL,Option.bind_some,Bool.false_eq_true,if_true,if_false,reduceIte,Int.reduceEq,aa1]
 all_goals repeat' first | with_reducible refine aaW.ite (fun _ =>?_) fun _ =>?_ | with_reducible refine aaW.iteN (fun _ =>?_) fun _ =>?_
 all_goals first | rfl | exact ⟨_,rfl,rfl⟩
theorem aDY {a b:Int}:∃ x,adJ ⟨o0,a,b⟩ e=some ((true,()),(x,aFO a b e,()))∧x.o=⟨true,0,0⟩:=by
 simp only [adJ,aav,abh,o0,awv,anb,Option.bind_some,Bool.false_eq_true,if_true,if_false]
 exact ⟨_,rfl,rfl⟩
theorem ajI {t:Int}:afj e t=some ((decide (IsT e t),()),(e,())):=by
 unfold afj IsT
 by_cases h:0≤t
 ·simp only [h,if_true,true_and]
 ·simp only [h,if_false,false_and,decide_false]
theorem asy {t v:Int}:ajV e t v=some ((decide (axW e t v),()),(e,())):=by
 unfold ajV axW
 by_cases h:0≤t
 ·by_cases h2:t<e.c.tasks
  ·by_cases h3:0≤v
   ·simp only [h,h2,h3,if_true,true_and]
   ·simp only [h,h2,h3,if_true,if_false,false_and,and_false,decide_false]
  ·simp only [h,h2,if_true,if_false,false_and,and_false,decide_false]
 ·simp only [h,if_false,false_and,decide_false]
theorem auJ:∃ x,ab2 ⟨o0⟩ e=some ((true,()),(x,aff e,()))∧x.o=if IsT e (wi (e.gt 0)) then ⟨true,1,wi (e.gt 0)⟩ else ⟨true,3,0⟩:=by
 simp only [ab2,aav,abh,aBC,o0,ar5,ajI,Option.bind_some,Bool.false_eq_true,if_true,if_false]
 by_cases h:IsT e (wi (e.gt 0))
 ·have h':IsT { e with m:=e.m.pt 6 0 (wu (e.m.gt 0+1)) } (wi (e.m.gt 0)):=h
  simp only [h,h',decide_true,Bool.not_true,Bool.false_eq_true,if_true,if_false]
  exact ⟨_,rfl,rfl⟩
 ·have h':¬ IsT { e with m:=e.m.pt 6 0 (wu (e.m.gt 0+1)) } (wi (e.m.gt 0)):=h
  simp only [h,h',decide_false,Bool.not_false,if_true,if_false]
  exact ⟨_,rfl,rfl⟩
theorem au8 {t v:Int} (s:PublishS):aaW PublishV.o (alO t v) (abO (alO t v s) e) (afx t v e s):=by
 by_cases h:IsT e t
 ·cases s<;>simp only [abO,alO,afx,ajI,h,not_true,decide_true,Bool.not_true,aav,abh,arX,o0,abt,afM,ajw,ae0,Option.bind_some,Bool.false_eq_true,if_true,if_false,reduceIte,Int.reduceEq]
  all_goals first | rfl | exact ⟨_,rfl,rfl⟩
 ·cases s<;>simp only [abO,alO,afx,ajI,h,not_false_eq_true,decide_false,Bool.not_false,aav,abh,o0,Option.bind_some,Bool.false_eq_true,if_true,if_false]
  all_goals exact ⟨_,rfl,rfl⟩
theorem asd {w:Int} {b:Bool}:∃ d x,acR ⟨o0,w,b⟩ e=some ((d,()),(x,ang w e,()))∧(d=true→x.o=if e.hit 1 0=true then ⟨true,1,0⟩ else ⟨true,5,0⟩)∧(d=(e.hit 1 0 || b))∧(d=false→x=⟨o0,w,b⟩):=by
 simp only [acR,aav,abh,ayT,o0,ajB,Option.bind_some,Bool.false_eq_true,if_true,if_false]
 rcases Bool.eq_false_or_eq_true (e.m.hit 1 0) with h | h
 ·simp only [h,if_true]; exact ⟨_,_,rfl,(fun _ =>rfl),rfl,(fun h =>by cases h)⟩
 ·cases b
  ·simp only [h,Bool.false_eq_true,if_false]; exact ⟨_,_,rfl,(fun h =>by cases h),rfl,fun _ =>rfl⟩
  ·simp only [h,Bool.false_eq_true,if_false,if_true]; exact ⟨_,_,rfl,(fun _ =>rfl),rfl,(fun h =>by cases h)⟩
theorem awY:∃ x,acQ ⟨o0⟩ e=some ((true,()),(x,aqa e,()))∧x.o=⟨true,0,0⟩:=by
 simp only [acQ,aav,abh,ayT,o0,abt,Option.bind_some,Bool.false_eq_true,if_true,if_false]
 exact ⟨_,rfl,rfl⟩
theorem amx {w t:Int} (hl:e.evs.length≤999999999) (hr:e.hit (adr e.l t) 1=true→0≤t∧t<(e.recs.length:Int)):∃ x,adh ⟨o0,w,t⟩ e=some ((true,()),(x,ah7 w t e,()))∧x.o=if ahn t e=true then ⟨true,1,t⟩ else ⟨true,4,0⟩:=by
 simp only [adh,aav,abh,o0,ajB,ae0,Option.bind_some,Bool.false_eq_true,if_true,if_false]
 unfold ah7 ahn
 simp only [EnvP.hit] at hr ⊢
 rcases Bool.eq_false_or_eq_true (e.m.hit (adr e.l t) 1) with h | h
 ·simp only [h,Bool.not_true,Bool.false_eq_true,if_true,if_false,hr h,and_self]
  by_cases hs:(aab e.recs t).started=true
  ·have hs':(e.rc t).started=true:=hs
   simp only [hs,hs',if_true,acj (e:={ e with m:=e.m.cas (adr e.l t) 1 2 }) hl,Option.bind_some]
   exact ⟨_,rfl,rfl⟩
  ·have hs':¬ (e.rc t).started=true:=hs
   simp only [hs,hs',if_false,acj (e:={ e with m:=e.m.cas (adr e.l t) 1 2,recs:=e.recs.set t.toNat { aab e.recs t with started:=true } }) hl,Option.bind_some]
   exact ⟨_,rfl,rfl⟩
 ·simp only [h,Bool.not_false,Bool.false_eq_true,if_true,if_false,acj (e:={ e with m:=e.m.cas (adr e.l t) 1 2 }) hl,Option.bind_some]
  exact ⟨_,rfl,rfl⟩
theorem arc {d t:Int} (s:InsertS):aaW InsertV.o (ask d t) (abH (ask d t s) e) (abq d t e s):=by
 cases s<;>simp only [abH,adG,apz,ask,abq,aav,abh,agn,ar4,o0,abx,abt,ar5,awu,aBz,Option.bind_some,Bool.false_eq_true,if_true,if_false,reduceIte,Int.reduceEq,aa1,acn,auh]
 all_goals repeat' first | with_reducible refine aaW.ite (fun _ =>?_) fun _ =>?_ | with_reducible refine aaW.iteN (fun _ =>?_) fun _ =>?_
 all_goals first | rfl | exact ⟨_,rfl,rfl⟩
theorem axx {w:Int} (hl:e.evs.length≤999999999) (s:RemoveS):aaW RemoveV.o (arL w) (abG (arL w s) e) (aby w e s):=by
 have hm:∀ m v,aep { e with m:=m } v=some ((),({ e with m:=m,evs:=e.evs++[v] },())):=fun m v =>acj (e:={ e with m:=m }) hl
 cases s<;>simp only [abG,aeI,adb,acY,acf,aqr,auq,arL,aby,aav,abh,agn,ava,o0,abx,abt,awu,hm,Option.bind_some,Bool.false_eq_true,if_true,if_false,reduceIte,Int.reduceEq,aa1,acn,auh]
 all_goals repeat' first | with_reducible refine aaW.ite (fun _ =>?_) fun _ =>?_ | with_reducible refine aaW.iteN (fun _ =>?_) fun _ =>?_
 all_goals first | rfl | exact ⟨_,rfl,rfl⟩ | skip
 refine aaW.iteL (fun h =>?_) fun h =>?_
 ·rw [if_pos h]
  exact aaW.ite (fun _ =>rfl) fun _ =>rfl
 ·rw [if_neg h]
  exact aaW.ite (fun _ =>rfl) fun _ =>rfl
theorem atJ {w t v:Int} (hl:e.evs.length≤999999999) (s:RaiseS):aaW RaiseV.o (atK w t v) (acB (atK w t v s) e) (aew w t v e s):=by
 have hm:∀ m v,aep { e with m:=m } v=some ((),({ e with m:=m,evs:=e.evs++[v] },())):=fun m v =>acj (e:={ e with m:=m }) hl
 by_cases h:axW e t v
 ·cases s<;>simp only [acB,atK,aew,asy,h,not_true,decide_true,Bool.not_true,aav,abh,o0,abx,ajB,afM,hm,Option.bind_some,Bool.false_eq_true,if_true,if_false,reduceIte,Int.reduceEq,aa1]
  all_goals repeat' first | with_reducible refine aaW.ite (fun _ =>?_) fun _ =>?_ | with_reducible refine aaW.iteN (fun _ =>?_) fun _ =>?_
  all_goals first | rfl | exact ⟨_,rfl,rfl⟩
 ·cases s<;>simp only [acB,atK,aew,asy,h,not_false_eq_true,decide_false,Bool.not_false,aav,abh,o0,Option.bind_some,Bool.false_eq_true,if_true,if_false]
  all_goals exact ⟨_,rfl,rfl⟩
theorem ayh {w:Int} (hl:e.evs.length≤999999999) (s:SleepS):aaW SleepV.o (atq w) (ac9 (atq w s) e) (agk w e s):=by
 have hm:∀ m k v,aep { e with m:=m,k:=k } v=some ((),({ e with m:=m,k:=k,evs:=e.evs++[v] },())):=fun m k v =>acj (e:={ e with m:=m,k:=k }) hl
 by_cases hc:e.c.classes<1
 ·cases s<;>simp only [ac9,agA,agz,atq,agk,ahG,hc,aav,abh,arX,agn,o0,abx,awv,apF,anb,ana,alZ,ahf,aeN,hm,Option.bind_some,Bool.false_eq_true,if_true,if_false,reduceIte,Int.reduceEq,aa1,acn]
  all_goals repeat' first | with_reducible refine aaW.ite (fun _ =>?_) fun _ =>?_ | with_reducible refine aaW.iteN (fun _ =>?_) fun _ =>?_
  all_goals first | rfl | exact ⟨_,rfl,rfl⟩
 ·cases s<;>simp only [ac9,agA,agz,atq,agk,ahG,hc,aav,abh,arX,agn,o0,abx,awv,apF,anb,ana,alZ,ahf,aeN,hm,Option.bind_some,Bool.false_eq_true,if_true,if_false,reduceIte,Int.reduceEq,aa1,acn]
  all_goals repeat' first | with_reducible refine aaW.ite (fun _ =>?_) fun _ =>?_ | with_reducible refine aaW.iteN (fun _ =>?_) fun _ =>?_
  all_goals first | rfl | exact ⟨_,rfl,rfl⟩
theorem als [Tb] {w v:Int} (hl:e.evs.length≤999999999) (s:WakeS):aaW WakeV.o (atj w v) (adz (atj w v s) e) (aev w v e s):=by
 have hm:∀ m v,aep { e with m:=m } v=some ((),({ e with m:=m,evs:=e.evs++[v] },())):=fun m v =>acj (e:={ e with m:=m }) hl
 by_cases hc:e.c.classes<1
 ·cases s<;>simp only [adz,atj,aev,amJ,hc,aav,abh,ayS,o0,abx,ar5,apF,anb,ana,atT,alZ,ahf,hm,Option.bind_some,Bool.false_eq_true,if_true,if_false,reduceIte,Int.reduceEq,aa1,acn,decide_eq_true_eq]
  all_goals repeat' first | with_reducible refine aaW.ite (fun _ =>?_) fun _ =>?_ | with_reducible refine aaW.iteN (fun _ =>?_) fun _ =>?_
  all_goals first | rfl | exact ⟨_,rfl,rfl⟩
 ·cases s<;>simp only [adz,atj,aev,amJ,hc,aav,abh,ayS,o0,abx,ar5,apF,anb,ana,atT,alZ,ahf,hm,Option.bind_some,Bool.false_eq_true,if_true,if_false,reduceIte,Int.reduceEq,aa1,acn,decide_eq_true_eq]
  all_goals repeat' first | with_reducible refine aaW.ite (fun _ =>?_) fun _ =>?_ | with_reducible refine aaW.iteN (fun _ =>?_) fun _ =>?_
  all_goals first | rfl | exact ⟨_,rfl,rfl⟩
end
section
variable {e:EnvP}
theorem ayO {x:ProbeV} {n:Int} (hn:1≤n):aex x n=some ((decide (n≤am7 x.worker n x.start x.next),()),({ x with next:=am7 x.worker n x.start x.next },())):=by
 unfold aex am7
 have h0:n≠0:=by omega
 by_cases h:x.next<n
 ·by_cases h2:Int.tmod (wi (x.start+x.next)) n=x.worker
  ·simp only [h,h0,h2,ne_eq,not_false_eq_true,if_true,decide_true,Option.bind_some,and_self]
  ·simp only [h,h0,h2,ne_eq,not_false_eq_true,if_true,decide_false,Option.bind_some,and_false,if_false,Bool.false_eq_true]
 ·simp only [h,false_and,if_false,Option.bind_some,Bool.false_eq_true]
theorem avr (h:1≤e.c.workers):1≤ab6 e∧ab6 e≤16:=by
 unfold ab6
 split<;>omega
theorem ax3 {a n:Int} (hn:1≤n) (ha:0≤a):0≤Int.tmod a n∧Int.tmod a n<n:=by
 rw [Int.tmod_eq_emod_of_nonneg ha]
 exact ⟨Int.emod_nonneg _ (by omega),Int.emod_lt_of_pos _ (by omega)⟩
theorem ayM {w s:Int} {n:Int} (hn:1≤n∧n≤16) (hs:0≤s∧s≤100) (st:Int) (hst:asb st n=s) (x:ProbeV) (hx:x.start=st) (F:(Int×Int×Int×ProbeV×Unit→Option (Int×Int×Int×ProbeV×Unit))→Int×Int×Int×ProbeV×Unit→Option (Int×Int×Int×ProbeV×Unit))
  (hF:∀ self a b i,0≤i→i≤16→F self (a,b,i,x,())=if i<n then (if Int.tmod (wi (s+i)) n≠w∧b<asn (x.bm.at (Int.tmod (wi (s+i)) n)) then self (Int.tmod (wi (s+i)) n,asn (x.bm.at (Int.tmod (wi (s+i)) n)),wi (i+1),x,()) else self (a,b,wi (i+1),x,())) else some (a,b,i,x,())) :
  ∀ (k fuel:Nat) (i a b:Int),0≤i→(i+(k:Int)=n)→k<fuel→lpF F fuel (a,b,i,x,())=some ((axz w n s x.bm k i (a,b)).1,(axz w n s x.bm k i (a,b)).2,n,x,()):=by
 intro k
 induction k with
 | zero =>
  intro fuel i a b h0 hi hf
  obtain ⟨fuel,rfl⟩:∃ f,fuel=f+1:=⟨fuel-1,by omega⟩
  show F (lpF F fuel) _=_
  rw [hF _ _ _ _ h0 (by omega),if_neg (by omega)]
  have:i=n:=by omega
  subst this
  rfl
 | succ k ih =>
  intro fuel i a b h0 hi hf
  obtain ⟨fuel,rfl⟩:∃ f,fuel=f+1:=⟨fuel-1,by omega⟩
  show F (lpF F fuel) _=_
  rw [hF _ _ _ _ h0 (by omega),if_pos (by omega)]
  have e1:wi (i+1)=i+1:=aaw (aai (by omega))
  rw [e1]
  unfold axz
  split
  ·exact ih fuel (i+1) _ _ (by omega) (by omega) (by omega)
  ·exact ih fuel (i+1) _ _ (by omega) (by omega) (by omega)
theorem aaW.bind {σ X α:Type} {og:X→OutV} {mk:σ→X} {r:Rs σ×EnvP} {A:Option α} {f:α→Option ((Bool×Unit)×(X×EnvP×Unit))} {z:α} (h:A=some z) (h2:aaW og mk (f z) r):aaW og mk (A.bind f) r:=by rw [h]; exact h2
theorem aAp {α β:Type} {A:Option α} {f:α→Option β} {z:α} (h:A=some z):A.bind f=f z:=by rw [h]; rfl
theorem aaW.ite' {σ X:Type} {og:X→OutV} {mk:σ→X} {a b:Option ((Bool×Unit)×(X×EnvP×Unit))} {r s:Rs σ×EnvP} {c:Prop} [Decidable c] (h1:c→aaW og mk b r) (h2:¬ c→aaW og mk a s):aaW og mk (if (!decide c)=true then a else b) (if c then r else s):=by
 by_cases h:c
 ·rw [if_pos h,decide_eq_true h]; exact h1 h
 ·rw [if_neg h,decide_eq_false h]; exact h2 h
def anH (n:Int):ProbeS→Prop
 | .new =>True
 | .run s i _ =>(0≤s∧s<n)∧0≤i∧i≤n
theorem aze {a n:Int} (hn:1≤n∧n≤1000000):0≤asb a n∧asb a n<n:=by
 unfold asb
 rw [if_neg (by omega)]
 have h1:-n<Int.tmod a n:=Int.lt_tmod_of_pos a (b:=n) (by omega)
 have h2:Int.tmod a n<n:=Int.tmod_lt_of_pos a (b:=n) (by omega)
 split
 ·rw [aaw (aai (by omega))]; omega
 ·omega
theorem aEI {s n:Int} (h:0≤s∧s<n):asb s n=s:=by
 unfold asb
 rw [if_neg (by omega)]
 have e1:Int.tmod s n=s:=Int.tmod_eq_of_lt h.1 h.2
 rw [e1,if_neg (by omega)]
theorem arT {w n s i:Int} (hi:0≤i∧i≤n) (hn:n≤16):i≤am7 w n s i∧am7 w n s i≤n:=by
 unfold am7
 split
 ·rw [aaw (aai (by omega))]; omega
 ·omega
theorem aJD {v:Int} (h:0≤v∧v<16):v=15∨v=14∨v=13∨v=12∨v=11∨v=10∨v=9∨v=8∨v=7∨v=6∨v=5∨v=4∨v=3∨v=2∨v=1∨v=0:=by omega
theorem atN {w s i:Int} {bm:B16} (hw:1≤e.c.workers) (h:anH (ab6 e) (.run s i bm)):aaW ProbeV.o (alR w) (abk (alR w (.run s i bm)) e) (aiW w e s i bm):=by
 obtain ⟨hs,hi⟩:=h
 have hn:=avr hw
 have hM:(if 16<e.c.workers then 16 else e.c.workers)=ab6 e:=rfl
 have hp:=arT (w:=w) (s:=s) hi hn.2
 unfold abk aiW
 simp only [alR,aav,o0,hM,Option.bind_some,Bool.false_eq_true,if_false,Bool.not_true,ayO hn.1,decide_eq_true_eq,abh]
 refine aaW.ite (fun _ =>⟨_,rfl,rfl⟩) fun hlt =>?_
 generalize hj:am7 w (ab6 e) s i=j at hp hlt ⊢
 have hsj:wi (s+j)=s+j:=aaw (aai (by omega))
 have hv:=ax3 (a:=s+j) hn.1 (by omega)
 have hj1:wi (j+1)=j+1:=aaw (aai (by omega))
 rw [if_pos (show ab6 e≠0 by omega),hsj,hj1]
 generalize hvv:Int.tmod (s+j) (ab6 e)=v at hv ⊢
 have hp2:=arT (w:=w) (s:=s) (i:=j+1) ⟨by omega,by omega⟩ hn.2
 simp only [aeN,abx,Option.bind_some]
 refine aaW.bind (z:=(⟨⟨false,0,0⟩,w,true,s,j,bm.put v (e.m.gt (aaN e.l v))⟩,{ e with m:=e.m.pt 1 (aaN e.l v) (e.m.gt (aaN e.l v)) },())) ?_ ?_
 ·rcases aJD (v:=v) (by omega) with h | h | h | h | h | h | h | h | h | h | h | h | h | h | h | h<;>subst h<;>rfl
 simp only [hj1,ayO hn.1,Option.bind_some]
 generalize hj2:am7 w (ab6 e) s (j+1)=j2 at hp2 ⊢
 refine aaW.ite' (c:=ab6 e≤j2) (fun h2 =>?_) (fun h2 =>?_)
 ·simp only [if_true,if_pos (show 0≤ab6 e∧ab6 e≤((16:Nat):Int) by omega)]
  have ht:(((ab6 e).toNat:Nat):Int)=ab6 e:=by omega
  have hm:asb s (ab6 e)=s:=aEI hs
  refine aaW.bind (ayM (w:=w) (s:=s) (n:=ab6 e) hn ⟨hs.1,by omega⟩ s hm _ rfl _ (fun self a b i h0 h16 =>?_) (ab6 e).toNat _ 0 (-1) (-1) (Int.le_refl 0) (by omega) (by omega)) ?_
  ·simp only [ht,ana,hm,Option.bind_some]
   refine ite_congr rfl (fun hlt =>?_) fun _ =>rfl
   have hsi:wi (s+i)=s+i:=aaw (aai (by omega))
   have hv2:=ax3 (a:=s+i) hn.1 (by omega)
   rw [if_pos (show ab6 e≠0 by omega),hsi]
   generalize Int.tmod (s+i) (ab6 e)=u at hv2 ⊢
   rw [if_pos hv2.2]
   refine (aAp (z:=(asn ((bm.put v (e.m.gt (aaN e.l v))).at u),⟨⟨false,0,0⟩,w,true,s,j2,bm.put v (e.m.gt (aaN e.l v))⟩,())) ?_).trans ?_
   ·rcases aJD (v:=u) (by omega) with h | h | h | h | h | h | h | h | h | h | h | h | h | h | h | h<;>subst h<;>exact aAp awA
   ·by_cases c1:u≠w
    ·by_cases c2:b<asn ((bm.put v (e.m.gt (aaN e.l v))).at u)
     ·rw [if_pos c1,if_pos c2,if_pos ⟨c1,c2⟩]
     ·rw [if_pos c1,if_neg c2,if_neg (fun h =>c2 h.2)]
    ·rw [if_neg c1,if_neg (fun h =>c1 h.1)]
  ·have hc:aqq w (ab6 e) s (bm.put v (e.m.gt (aaN e.l v)))=axz w (ab6 e) s (bm.put v (e.m.gt (aaN e.l v))) (ab6 e).toNat 0 (-1,-1):=by unfold aqq; rw [hm]
   rw [hc]
   simp only [aa1,Option.bind_some]
   exact aaW.ite (fun _ =>⟨_,rfl,rfl⟩) fun _ =>⟨_,rfl,rfl⟩
 ·rfl
theorem ayG {w:Int} (hw:1≤e.c.workers) (s:ProbeS) (h:anH (ab6 e) s):aaW ProbeV.o (alR w) (abk (alR w s) e) (akP w e s):=by
 cases s with
 | run s i bm =>exact atN hw h
 | new =>
  have hn:=avr hw
  have hd:0≤avD e.k (ab6 e)∧avD e.k (ab6 e)<ab6 e:=aze ⟨hn.1,by omega⟩
  have h1:=atN (w:=w) (s:=avD e.k (ab6 e)) (i:=0) (bm:=aIo) hw ⟨hd,Int.le_refl 0,by omega⟩
  have hM:(if 16<e.c.workers then 16 else e.c.workers)=ab6 e:=rfl
  have e1:abk (alR w .new) e=abk (alR w (.run (avD e.k (ab6 e)) 0 aIo)) e:=by
   unfold abk
   simp only [alR,aav,o0,hM,Option.bind_some,Bool.false_eq_true,if_false,Bool.not_true,Bool.not_false,if_true,aBG]
  rw [e1]
  exact h1
theorem aBu {w:Int} (hw:1≤e.c.workers) {s s':ProbeS} {e':EnvP} (h:anH (ab6 e) s) (hs:akP w e s=(.go s',e')):anH (ab6 e) s':=by
 have hn:=avr hw
 have key:∀ s i bm,(0≤s∧s<ab6 e)→(0≤i∧i≤ab6 e)→aiW w e s i bm=(.go s',e')→anH (ab6 e) s':=fun s i bm hs0 hi hg =>by
  have hp:=arT (w:=w) (s:=s) hi hn.2
  unfold aiW at hg
  generalize am7 w (ab6 e) s i=j at hp hg
  split at hg
  ·cases hg
  ·rename_i hlt
   have hj1:wi (j+1)=j+1:=aaw (aai (by omega))
   have hp2:=arT (w:=w) (s:=s) (i:=j+1) ⟨by omega,by omega⟩ hn.2
   simp only [hj1] at hg
   split at hg
   ·split at hg<;>cases hg
   ·cases hg
    exact ⟨hs0,by omega,by omega⟩
 cases s with
 | run s i bm =>exact key s i bm h.1 h.2 hs
 | new =>exact key _ 0 _ (aze ⟨hn.1,by omega⟩) ⟨Int.le_refl 0,by omega⟩ hs
end
inductive One (m:MemV):MemV→Prop where
 | no:One m m
 | yes (k a v:Int) (h:0≤a∧a<(m.cells.length:Int)) (hk:k<2→v=aeu m.cells a):One m ⟨m.cells.set a.toNat v,⟨k,a,aeu m.cells a,v⟩,wi (m.count+1)⟩
structure Stp (j:Nat) (e e':EnvP):Prop where
 c:e'.c=e.c
 l:e'.l=e.l
 k:e'.k=e.k
 rl:e'.recs.length=e.recs.length
 m:One e.m e'.m
 ev:e'.evs.length≤e.evs.length+j
 kd:∀ K,(∀ r∈e.recs,r.kids.length≤K)→∀ r∈e'.recs,r.kids.length≤K+1
section
variable {j:Nat} {e e':EnvP}
theorem Stp.refl:Stp 0 e e:=⟨rfl,rfl,rfl,rfl,.no,Nat.le_refl _,fun K h r hr =>Nat.le_succ_of_le (h r hr)⟩
theorem Stp.le {i:Nat} (h:Stp j e e') (hi:j≤i):Stp i e e':=⟨h.c,h.l,h.k,h.rl,h.m,Nat.le_trans h.ev (Nat.add_le_add_left hi _),h.kd⟩
theorem ay8 {m:MemV} {k a v:Int} (hk:k<2→0≤a→a<(m.cells.length:Int)→v=aeu m.cells a):One m (m.pt k a v):=by
 unfold MemV.pt
 by_cases h:0≤a∧a<(m.cells.length:Int)
 ·rw [if_pos h]; exact .yes k a v h fun hk' =>hk hk' h.1 h.2
 ·rw [if_neg h]; exact .no
theorem Stp.pt {k a v:Int} (hk:2≤k):Stp 0 e (e.pt k a v):=⟨rfl,rfl,rfl,rfl,ay8 fun h =>absurd h (by omega),Nat.le_refl _,fun K h r hr =>Nat.le_succ_of_le (h r hr)⟩
theorem Stp.lk {a:Int}:Stp 0 e (e.lk a):=⟨rfl,rfl,rfl,rfl,ay8 fun _ h1 h2 =>by unfold MemV.gt; rw [if_pos ⟨h1,h2⟩],Nat.le_refl _,fun K h r hr =>Nat.le_succ_of_le (h r hr)⟩
theorem Stp.cas {a o v:Int}:Stp 0 e (e.cas a o v):=⟨rfl,rfl,rfl,rfl,ay8 fun h =>absurd h (by omega),Nat.le_refl _,fun K h r hr =>Nat.le_succ_of_le (h r hr)⟩
theorem Stp.em {k w t o l:Int} (h:Stp j e e'):Stp (j+1) e (e'.em k w t o l):=⟨h.c,h.l,h.k,h.rl,h.m,by
 show (e'.evs++[_]).length≤_
 rw [List.length_append,List.length_singleton]
 have:=h.ev
 omega,h.kd⟩
theorem Stp.pr {t:Int} {r:RecP} (h:Stp j e e') (hr:∀ K,(∀ r∈e.recs,r.kids.length≤K)→r.kids.length≤K+1):Stp j e (e'.pr t r):=⟨h.c,h.l,h.k,(by show (e'.recs.set _ _).length=_; rw [List.length_set]; exact h.rl),h.m,h.ev,fun K hK x hx =>by
 rcases List.mem_or_eq_of_mem_set hx with hx | rfl
 ·exact h.kd K hK x hx
 ·exact hr K hK⟩
theorem aoN {q:QV} {v:Int} (s:OPushS):Stp 0 e (afc q v e s).2:=by
 cases s<;>unfold afc<;>first | exact .lk | exact .pt (by decide)
theorem ay0 {q:QV} (s:OPopS):Stp 0 e (aom q e s).2:=by
 cases s<;>unfold aom<;>first | exact .lk | exact .pt (by decide) | exact .cas
theorem av8 {q:QV} (s:StealS):Stp 0 e (aiS q e s).2:=by
 cases s<;>unfold aiS<;>first | exact .lk | exact .pt (by decide) | exact .cas
theorem awh {a b:Int} {q:QV} (s:ResetS):Stp 0 e (agm a b q e s).2:=by
 cases s<;>unfold agm<;>first | exact .lk | exact .pt (by decide)
theorem aGm {a b:Int}:Stp 0 e (aFO a b e):=.pt (by decide)
theorem aoZ:Stp 0 e (aff e):=.pt (by decide)
theorem aq1 {t v:Int} (s:PublishS):Stp 0 e (afx t v e s).2:=by
 unfold afx
 split
 ·exact .refl
 ·cases s<;>exact .pt (by decide)
theorem arO {t:Int} (h:0≤t∧t<(e.recs.length:Int)) (K:Nat) (hK:∀ r∈e.recs,r.kids.length≤K):(e.rc t).kids.length≤K:=by
 refine hK _ ?_
 have h1:=aeL (d:=(dfR 26:RecP)) (xs:=e.recs) h
 exact List.mem_of_getElem? h1
theorem amy {w t:Int} (hr:ahn t e=true→0≤t∧t<(e.recs.length:Int)):Stp 1 e (ah7 w t e):=by
 unfold ah7
 split
 ·rename_i h
  split
  ·exact Stp.cas.em
  ·refine (Stp.cas.pr fun K hK =>?_).em
   exact Nat.le_succ_of_le (arO (hr h) K hK)
 ·exact Stp.cas.em
theorem avt {o:Int}:Stp 0 e (ang o e):=.cas
theorem avA:Stp 0 e (aqa e):=.pt (by decide)
theorem amm {d t:Int} (s:InsertS):Stp 0 e (abq d t e s).2:=by
 cases s<;>unfold abq<;>first | exact .lk | exact .pt (by decide)
theorem atF {w:Int} (s:RemoveS):Stp 1 e (aby w e s).2:=by
 cases s<;>unfold aby<;>first | exact Stp.lk.le (by decide) | exact Stp.le (.pt (by decide)) (by decide) | exact Stp.em (.pt (by decide))
theorem aBd {w:Int} (s:SleepS):Stp 1 e (agk w e s).2:=by
 cases s<;>unfold agk<;>repeat' split
 all_goals first | exact Stp.lk.le (by decide) | exact Stp.le (.pt (by decide)) (by decide) | exact Stp.lk.em
theorem ao3 [Tb] {w v:Int} (s:WakeS):Stp 1 e (aev w v e s).2:=by
 cases s<;>unfold aev<;>first | exact Stp.lk.le (by decide) | exact Stp.le (.pt (by decide)) (by decide) | exact Stp.em (.pt (by decide))
theorem awo {w t v:Int} (s:RaiseS):Stp 1 e (aew w t v e s).2:=by
 unfold aew
 split
 ·exact Stp.refl.le (by decide)
 ·cases s
  ·exact Stp.lk.le (by decide)
  ·simp only
   split
   ·exact Stp.cas.em
   ·exact Stp.cas.le (by decide)
theorem awp {w:Int} (s:ProbeS):Stp 0 e (akP w e s).2:=by
 have key:∀ s i bm,Stp 0 e (aiW w e s i bm).2:=fun s i bm =>by
  unfold aiW
  split
  ·exact .refl
  ·simp only
   split<;>exact .lk
 cases s
 ·exact key _ _ _
 ·exact key _ _ _
theorem agD {w v x:Int} (s:LPushS):Stp 0 e (ace w v x e s).2:=by
 cases s with
 | new =>
  have h:=aoN (e:=e) (q:=aax e.l w v) (v:=x) .l1
  revert h
  simp only [ace]
  rcases afc (aax e.l w v) x e .l1 with ⟨r | ⟨c,y⟩,e'⟩<;>intro h<;>exact h
 | push s =>
  have h:=aoN (e:=e) (q:=aax e.l w v) (v:=x) s
  revert h
  simp only [ace]
  rcases afc (aax e.l w v) x e s with ⟨r | ⟨c,y⟩,e'⟩<;>intro h<;>exact h
 | set =>exact aGm
theorem aEK {w:Int} (s:LPopS):Stp 0 e (ahU w e s).2:=by
 cases s with
 | l1 v =>exact .lk
 | l2 v s =>
  have h:=ay0 (e:=e) (q:=aax e.l w v) s
  revert h
  simp only [ahU]
  rcases aom (aax e.l w v) e s with ⟨r | ⟨c,y⟩,e'⟩<;>intro h<;>exact h
 | l3 v s =>
  have h:=awh (e:=e) (a:=aaN e.l w) (b:=v) (q:=aax e.l w v) s
  revert h
  simp only [ahU]
  rcases agm (aaN e.l w) v (aax e.l w v) e s with ⟨r | ⟨c,y⟩,e'⟩<;>intro h<;>exact h
theorem axY {w v:Int} (s:WalkS):Stp 1 e (af8 w v e s).2:=by
 cases s with
 | l1 t =>
  by_cases hf:axW e t v
  ·have h:=awo (e:=e) (w:=w) (t:=t) (v:=v) (.l1 0)
   simp only [af8,hf,not_true,if_false]
   revert h
   rcases aew w t v e (.l1 0) with ⟨r | ⟨c,y⟩,e'⟩<;>intro h<;>exact h
  ·simp only [af8,hf,not_false_eq_true,if_true]
   exact Stp.refl.le (by decide)
 | raise t s =>
  have h:=awo (e:=e) (w:=w) (t:=t) (v:=v) s
  revert h
  simp only [af8]
  rcases aew w t v e s with ⟨r | ⟨c,y⟩,e'⟩<;>intro h<;>exact h
 | l2 t =>exact Stp.lk.le (by decide)
 | push t s =>
  have h:=agD (e:=e) (w:=w) (v:=v) (x:=t) s
  revert h
  simp only [af8]
  rcases ace w v t e s with ⟨r | ⟨c,y⟩,e'⟩<;>intro h
  ·exact h.le (by decide)
  ·show Stp 1 e (if c=3 then _ else _)
   split
   ·exact h.em
   ·exact h.le (by decide)
 | l4 t =>exact Stp.lk.le (by decide)
theorem aCj {w t:Int} (s:EnterS):Stp 0 e (adZ w t e s).2:=by
 cases s with
 | l1 =>
  by_cases hf:IsT e t
  ·simp only [adZ,hf,not_true,if_false]; exact .pt (by decide)
  ·simp only [adZ,hf,not_false_eq_true,if_true]; exact .refl
 | l2 =>exact .pt (by decide)
 | l3 =>exact .lk
 | l4 v s =>
  have h:=agD (e:=e) (w:=w) (v:=v) (x:=t) s
  revert h
  simp only [adZ]
  rcases ace w v t e s with ⟨r | ⟨c,y⟩,e'⟩<;>intro h<;>exact h
theorem aA1 {w t:Int} (s:SweepS):Stp 1 e (abA w t e s).2:=by
 cases s with
 | l1 =>
  by_cases hf:¬ IsT e t∨e.c.age=0
  ·simp only [abA,hf,if_true]; exact Stp.refl.le (by decide)
  ·simp only [abA,hf,if_false]; exact Stp.lk.le (by decide)
 | l2 =>exact Stp.lk.le (by decide)
 | l3 =>exact Stp.lk.le (by decide)
 | l4 q =>
  by_cases hf:e.hit (abX e.l t) q=true
  ·simp only [abA,hf,if_true]; exact Stp.cas.em
  ·simp only [abA,hf,if_false]; exact Stp.cas.le (by decide)
 | l5 q =>exact Stp.le (.pt (by decide)) (by decide)
 | l6 q s =>
  have h:=agD (e:=e) (w:=w) (v:=wi (wi q+1)) (x:=t) s
  revert h
  simp only [abA]
  rcases ace w (wi (wi q+1)) t e s with ⟨r | ⟨c,y⟩,e'⟩<;>intro h
  ·exact h.le (by decide)
  ·show Stp 1 e (if c=3 then _ else _)
   split
   ·exact h.em
   ·exact h.le (by decide)
theorem aDt {w:Int} (hr:∀ t,ahn t e=true→0≤t∧t<(e.recs.length:Int)) (s:TakeS):Stp 1 e (ak0 w e s).2:=by
 cases s with
 | pop s =>
  have h:=aEK (e:=e) (w:=w) s
  revert h
  simp only [ak0]
  rcases ahU w e s with ⟨r | ⟨c,y⟩,e'⟩<;>intro h<;>exact h.le (by decide)
 | claim t =>exact amy (hr t)
theorem aCq [Tb] {w:Int} (d:DrainS):Stp 1 e (abI w e d).2:=by
 obtain ⟨x,b,p,la,n,c⟩:=d
 cases c with
 | l1 =>exact Stp.lk.le (by decide)
 | l2 =>exact avt.le (by decide)
 | l3 s =>
  have h:=atF (e:=e) (w:=w) s
  revert h
  simp only [abI]
  rcases aby w e s with ⟨r | ⟨c,y⟩,e'⟩<;>intro h<;>exact h
 | l4 =>exact Stp.lk.le (by decide)
 | l5 s =>
  have h:=agD (e:=e) (w:=w) (v:=p) (x:=x) s
  revert h
  simp only [abI]
  rcases ace w p x e s with ⟨r | ⟨c,y⟩,e'⟩<;>intro h<;>exact h.le (by decide)
 | l6 =>exact avA.le (by decide)
 | l7 s =>
  have h:=ao3 (e:=e) (w:=w) (v:=la) s
  revert h
  simp only [abI]
  rcases aev w la e s with ⟨r | ⟨c,y⟩,e'⟩<;>intro h<;>exact h
end
structure EOk (K:Nat) (e:EnvP):Prop where
 dq:0≤e.l.deque∧e.l.deque≤65535
 tk:e.l.tasks=(e.recs.length:Int)
 ct:e.c.tasks=(e.recs.length:Int)
 wk:1≤e.c.workers
 ev:e.evs.length≤K
 kd:∀ r∈e.recs,r.kids.length≤K
section
variable [Tb] {K:Nat} {e:EnvP}
theorem EOk.q (h:EOk K e) (w v:Int):(aax e.l w v).cap≤9223372036854775807:=by
 have:=h.dq
 unfold aax
 repeat' split
 all_goals simp only; omega
theorem EOk.st (h:EOk K e) {t o:Int} (hh:e.hit (adr e.l t) o=true):0≤t∧t<(e.recs.length:Int):=by
 have h1:0≤adr e.l t:=by
  have:=of_decide_eq_true hh
  exact this.1.1
 unfold adr aeH atP at h1
 rw [← h.tk]
 split at h1
 ·omega
 ·split at h1<;>omega
theorem EOk.step (h:EOk K e) {j:Nat} {e':EnvP} (s:Stp j e e'):EOk (K+j+1) e':=by
 refine ⟨?_,?_,?_,?_,?_,?_⟩
 ·rw [s.l]; exact h.dq
 ·rw [s.l,s.rl]; exact h.tk
 ·rw [s.c,s.rl]; exact h.ct
 ·rw [s.c]; exact h.wk
 ·have:=s.ev; have:=h.ev; omega
 ·intro r hr
  have:=s.kd K h.kd r hr
  omega
@[reducible] def apQ (l : LayV) (w v x : Int) : LPushS → LPushV MV
 | .new =>⟨o0,w,v,x,1,.nil⟩
 | .push s =>⟨o0,w,v,x,1,.opush (awH (aax l w v) x s)⟩
 | .set =>⟨o0,w,v,x,2,.set ⟨o0,aaN l w,v⟩⟩
@[reducible] def aEL (l : LayV) (w : Int) : LPopS → LPopV MV
 | .l1 v =>⟨o0,w,v,1,.nil⟩
 | .l2 v s =>⟨o0,w,v,2,.opop (aBK (aax l w v) s)⟩
 | .l3 v s =>⟨o0,w,v,3,.reset (atC (aaN l w) v (aax l w v) s)⟩
@[reducible] def aDn (l : LayV) (w v : Int) : WalkS → WalkV MV
 | .l1 t =>⟨o0,w,t,v,1,.nil⟩
 | .raise t s =>⟨o0,w,t,v,1,.raise (atK w t v s)⟩
 | .l2 t =>⟨o0,w,t,v,2,.nil⟩
 | .push t s =>⟨o0,w,t,v,3,.lpush (apQ l w v t s)⟩
 | .l4 t =>⟨o0,w,t,v,4,.nil⟩
@[reducible] def azR (l : LayV) (w t : Int) : EnterS → EnterV MV
 | .l1 =>⟨o0,w,t,0,1,.nil⟩
 | .l2 =>⟨o0,w,t,0,2,.nil⟩
 | .l3 =>⟨o0,w,t,0,3,.nil⟩
 | .l4 v s =>⟨o0,w,t,v,4,.lpush (apQ l w v t s)⟩
@[reducible] def agR (l : LayV) (w t : Int) : SweepS → SweepV MV
 | .l1 =>⟨o0,w,t,1,0,.nil⟩
 | .l2 =>⟨o0,w,t,2,0,.nil⟩
 | .l3 =>⟨o0,w,t,3,0,.nil⟩
 | .l4 q =>⟨o0,w,t,4,q,.nil⟩
 | .l5 q =>⟨o0,w,t,5,q,.nil⟩
 | .l6 q s =>⟨o0,w,t,6,q,.lpush (apQ l w (wi (wi q+1)) t s)⟩
@[reducible] def aDu (l : LayV) (w : Int) : TakeS → TakeV MV
 | .pop s =>⟨o0,w,false,.lpop (aEL l w s)⟩
 | .claim t =>⟨o0,w,true,.claim ⟨o0,w,t⟩⟩
@[reducible] def azY (l : LayV) (w p x last : Int) : DrainC → Int × MV
 | .l1 =>(1,.nil)
 | .l2 =>(2,.attempt ⟨o0,w,true⟩)
 | .l3 s =>(3,.remove (arL w s))
 | .l4 =>(4,.nil)
 | .l5 s =>(5,.lpush (apQ l w p x s))
 | .l6 =>(6,.release ⟨o0⟩)
 | .l7 s =>(7,.wake (atj w last s))
@[reducible] def aw4 (l : LayV) (w : Int) (d : DrainS) : DrainV MV :=
 ⟨o0,w,(azY l w d.p d.x d.last d.c).1,(azY l w d.p d.x d.last d.c).2,d.x,d.direct,d.p,d.last,d.count⟩
theorem ak3:(SR1.spl MV.nil).isNone=true:=rfl
theorem ayd (x:OPushV):(SR1.spl (MV.opush x)).isNone=false:=rfl
theorem aDM (x:SetV):(SR1.spl (MV.set x)).isNone=false:=rfl
theorem ayc (x:RaiseV):(SR1.spl (MV.raise x)).isNone=false:=rfl
theorem ajD {w v x:Int} (hK:EOk K e) (s:LPushS):aaW LPushV.o (apQ e.l w v x) (acA (apQ e.l w v x s) e) (ace w v x e s):=by
 have hq:=hK.q w v
 cases s with
 | new =>
  have h:=atX (e:=e) (v:=x) hq .l1
  have hn:=aoN (e:=e) (q:=aax e.l w v) (v:=x) .l1
  revert h hn
  simp only [ace,acA,ak3,aav,abh,o0,ajy,apI,ajk,Option.bind_some,if_true,Bool.false_eq_true,if_false]
  rcases afc (aax e.l w v) x e .l1 with ⟨r | ⟨c,y⟩,e'⟩<;>intro h hn
  ·simp only [aaW,o0] at h
   simp only [h,Option.bind_some,Bool.not_false,if_true]
   rfl
  ·simp only [aaW,o0] at h
   obtain ⟨x',h,ho⟩:=h
   have hnl:e'.l=e.l:=hn.l
   simp only [h,ho,aeY,Option.bind_some,Bool.not_true,Bool.false_eq_true,if_false,aeN,ajW,hnl,reduceIte,Int.reduceEq,aa1]
   exact aaW.ite (fun _ =>⟨_,rfl,rfl⟩) fun _ =>rfl
 | push s =>
  have h:=atX (e:=e) (v:=x) hq s
  have hn:=aoN (e:=e) (q:=aax e.l w v) (v:=x) s
  revert h hn
  simp only [ace,acA,ayd,aav,abh,o0,ajk,Option.bind_some,if_true,Bool.false_eq_true,if_false]
  rcases afc (aax e.l w v) x e s with ⟨r | ⟨c,y⟩,e'⟩<;>intro h hn
  ·simp only [aaW] at h
   simp only [h,Option.bind_some,Bool.not_false,if_true]
   rfl
  ·simp only [aaW] at h
   obtain ⟨x',h,ho⟩:=h
   have hnl:e'.l=e.l:=hn.l
   simp only [h,ho,aeY,Option.bind_some,Bool.not_true,Bool.false_eq_true,if_false,aeN,ajW,hnl,reduceIte,Int.reduceEq,aa1]
   exact aaW.ite (fun _ =>⟨_,rfl,rfl⟩) fun _ =>rfl
 | set =>
  obtain ⟨y,h,ho⟩:=aDY (e:=e) (a:=aaN e.l w) (b:=v)
  simp only [o0] at h
  simp only [ace,acA,aDM,aav,abh,o0,ajk,h,ho,aeY,Option.bind_some,Bool.not_true,if_true,Bool.false_eq_true,if_false,reduceIte,Int.reduceEq]
  exact ⟨_,rfl,rfl⟩
theorem aBX {w:Int} (hK:EOk K e) (s:LPopS):aaW LPopV.o (aEL e.l w) (ada (aEL e.l w s) e) (ahU w e s):=by
 cases s with
 | l1 v =>
  simp only [ahU,ada,ais,aav,abh,o0,aeN,abx,awA,ajy,ar6,Option.bind_some,if_true,Bool.false_eq_true,if_false,aa1,acn]
  exact aaW.ite (fun _ =>⟨_,rfl,rfl⟩) fun _ =>rfl
 | l2 v s =>
  have h:=aBJ (e:=e) (hK.q w v) s
  have hn:=ay0 (e:=e) (q:=aax e.l w v) s
  revert h hn
  simp only [ahU,ada,aav,abh,o0,ajk,Option.bind_some,if_true,Bool.false_eq_true,if_false,reduceIte,Int.reduceEq]
  rcases aom (aax e.l w v) e s with ⟨r | ⟨c,y⟩,e'⟩<;>intro h hn
  ·simp only [aaW] at h
   simp only [h,Option.bind_some,Bool.not_false,if_true]
   rfl
  ·simp only [aaW] at h
   obtain ⟨x',h,ho⟩:=h
   have hnl:e'.l=e.l:=hn.l
   simp only [h,ho,aeY,Option.bind_some,Bool.not_true,Bool.false_eq_true,if_true,if_false,aeN,ajy,ag7,hnl,reduceIte,Int.reduceEq,aa1]
   exact aaW.ite (fun _ =>⟨_,rfl,rfl⟩) fun _ =>rfl
 | l3 v s =>
  have h:=atB (e:=e) (a:=aaN e.l w) (b:=v) (q:=aax e.l w v) s
  revert h
  simp only [ahU,ada,aav,abh,o0,ajk,Option.bind_some,if_true,Bool.false_eq_true,if_false,reduceIte,Int.reduceEq]
  rcases agm (aaN e.l w) v (aax e.l w v) e s with ⟨r | ⟨c,y⟩,e'⟩<;>intro h
  ·simp only [aaW] at h
   simp only [h,Option.bind_some,Bool.not_false,if_true]
   rfl
  ·simp only [aaW] at h
   obtain ⟨x',h,ho⟩:=h
   simp only [h,ho,aeY,Option.bind_some,Bool.not_true,Bool.false_eq_true,if_true,if_false]
   rfl
theorem aAT {w v:Int} (hK:EOk K e) (hk:K≤100000000) (s:WalkS):aaW WalkV.o (aDn e.l w v) (ab8 (aDn e.l w v s) e) (af8 w v e s):=by
 have hl:e.evs.length≤999999999:=by have:=hK.ev; omega
 cases s with
 | l1 t =>
  by_cases hf:axW e t v
  ·have h:=atJ (e:=e) (w:=w) (t:=t) (v:=v) hl (.l1 0)
   revert h
   simp only [af8,hf,ab8,aeA,asy,decide_true,not_true,Bool.not_true,ak3,anu,aav,abh,o0,adW,Option.bind_some,if_true,Bool.false_eq_true,if_false,reduceIte,Int.reduceEq]
   rcases aew w t v e (.l1 0) with ⟨r | ⟨c,y⟩,e'⟩<;>intro h
   ·simp only [aaW,o0] at h
    simp only [h,Option.bind_some,Bool.not_false,if_true]
    rfl
   ·simp only [aaW,o0] at h
    obtain ⟨x',h,ho⟩:=h
    simp only [h,ho,abv,Option.bind_some,Bool.not_true,Bool.false_eq_true,if_true,if_false,aa1,acn,auh]
    exact aaW.ite (fun _ =>rfl) fun _ =>rfl
  ·simp only [af8,hf,ab8,aeA,asy,decide_false,not_false_eq_true,Bool.not_false,ak3,aav,abh,o0,Option.bind_some,if_true,Bool.false_eq_true,if_false,reduceIte,Int.reduceEq]
   exact ⟨_,rfl,rfl⟩
 | raise t s =>
  have h:=atJ (e:=e) (w:=w) (t:=t) (v:=v) hl s
  revert h
  simp only [af8,ab8,aeA,ayc,aav,abh,o0,adW,Option.bind_some,if_true,Bool.false_eq_true,if_false,reduceIte,Int.reduceEq]
  rcases aew w t v e s with ⟨r | ⟨c,y⟩,e'⟩<;>intro h
  ·simp only [aaW] at h
   simp only [h,Option.bind_some,Bool.not_false,if_true]
   rfl
  ·simp only [aaW] at h
   obtain ⟨x',h,ho⟩:=h
   simp only [h,ho,abv,Option.bind_some,Bool.not_true,Bool.false_eq_true,if_true,if_false,aa1,acn,auh]
   exact aaW.ite (fun _ =>rfl) fun _ =>rfl
 | l2 t =>
  simp only [af8,ab8,aav,abh,o0,ae0,abx,acH,Option.bind_some,if_true,Bool.false_eq_true,if_false,reduceIte,Int.reduceEq,aa1,auh]
  exact aaW.ite (fun _ =>rfl) fun _ =>rfl
 | push t s =>
  have h:=ajD (w:=w) (v:=v) (x:=t) hK s
  have hn:=agD (e:=e) (w:=w) (v:=v) (x:=t) s
  revert h hn
  simp only [af8,ab8,aiK,aav,abh,o0,adW,Option.bind_some,if_true,Bool.false_eq_true,if_false,reduceIte,Int.reduceEq]
  rcases ace w v t e s with ⟨r | ⟨c,y⟩,e'⟩<;>intro h hn
  ·simp only [aaW] at h
   simp only [h,Option.bind_some,Bool.not_false,if_true]
   rw [← hn.l]
   rfl
  ·simp only [aaW] at h
   obtain ⟨x',h,ho⟩:=h
   have hl':e'.evs.length≤999999999:=by have h1:e'.evs.length≤e.evs.length+0:=hn.ev; have:=hK.ev; omega
   simp only [h,ho,abv,Option.bind_some,Bool.not_true,Bool.false_eq_true,if_true,if_false,acj hl']
   by_cases hc:c=3
   ·simp only [hc,if_true]; rfl
   ·simp only [hc,if_false]; rfl
 | l4 t =>
  simp only [af8,ab8,aav,abh,o0,alV,abx,Option.bind_some,if_true,Bool.false_eq_true,if_false,reduceIte,Int.reduceEq,aa1]
  exact aaW.ite (fun _ =>⟨_,rfl,rfl⟩) fun _ =>rfl
theorem azQ {w t:Int} (hK:EOk K e) (s:EnterS):aaW EnterV.o (azR e.l w t) (ab5 (azR e.l w t s) e) (adZ w t e s):=by
 cases s with
 | l1 =>
  by_cases hf:IsT e t
  ·simp only [adZ,hf,ab5,ajI,decide_true,not_true,Bool.not_true,aav,abh,arX,o0,ajw,abt,Option.bind_some,if_true,Bool.false_eq_true,if_false,reduceIte,Int.reduceEq]
   rfl
  ·simp only [adZ,hf,ab5,ajI,decide_false,not_false_eq_true,Bool.not_false,aav,abh,o0,Option.bind_some,if_true,Bool.false_eq_true,if_false,reduceIte,Int.reduceEq]
   exact ⟨_,rfl,rfl⟩
 | l2 =>
  simp only [adZ,ab5,aav,abh,o0,ae0,abt,Option.bind_some,if_true,Bool.false_eq_true,if_false,reduceIte,Int.reduceEq]
  rfl
 | l3 =>
  simp only [adZ,ab5,aav,abh,o0,afM,abx,acH,Option.bind_some,if_true,Bool.false_eq_true,if_false,reduceIte,Int.reduceEq]
  rfl
 | l4 v s =>
  have h:=ajD (w:=w) (v:=v) (x:=t) hK s
  have hn:=agD (e:=e) (w:=w) (v:=v) (x:=t) s
  revert h hn
  simp only [adZ,ab5,aav,abh,o0,adW,Option.bind_some,if_true,Bool.false_eq_true,if_false,reduceIte,Int.reduceEq]
  rcases ace w v t e s with ⟨r | ⟨c,y⟩,e'⟩<;>intro h hn
  ·simp only [aaW] at h
   simp only [h,Option.bind_some,Bool.not_false,if_true]
   rfl
  ·simp only [aaW] at h
   obtain ⟨x',h,ho⟩:=h
   simp only [h,ho,abv,Option.bind_some,Bool.not_true,Bool.false_eq_true,if_true,if_false]
   exact ⟨_,rfl,rfl⟩
theorem aAZ {w:Int} (hK:EOk K e) (hk:K≤100000000) (s:TakeS):aaW TakeV.o (aDu e.l w) (aeM (aDu e.l w s) e) (ak0 w e s):=by
 have hl:e.evs.length≤999999999:=by have:=hK.ev; omega
 cases s with
 | pop s =>
  have h:=aBX (w:=w) hK s
  revert h
  simp only [ak0,aeM,aav,abh,o0,adW,Option.bind_some,if_true,Bool.false_eq_true,if_false]
  rcases ahU w e s with ⟨r | ⟨c,y⟩,e'⟩<;>intro h
  ·simp only [aaW] at h
   simp only [h,Option.bind_some,Bool.not_false,if_true]
   rfl
  ·simp only [aaW] at h
   obtain ⟨x',h,ho⟩:=h
   simp only [h,ho,abv,acF,Option.bind_some,Bool.not_true,Bool.false_eq_true,if_true,if_false,aa1]
   exact aaW.ite (fun _ =>⟨_,rfl,rfl⟩) fun _ =>rfl
 | claim t =>
  obtain ⟨x',h,ho⟩:=amx (w:=w) (t:=t) hl hK.st
  simp only [o0] at h
  simp only [ak0,aeM,aav,abh,o0,adW,h,Option.bind_some,if_true,Bool.false_eq_true,if_false,abv,Bool.not_true,afO]
  rcases Bool.eq_false_or_eq_true (ahn t e) with hc | hc
  ·simp only [hc,if_true] at ho ⊢
   simp only [ho,if_true]
   exact ⟨_,rfl,rfl⟩
  ·simp only [hc,Bool.false_eq_true,if_false] at ho ⊢
   simp only [ho,reduceIte,Int.reduceEq]
   rfl
end
section
variable [Tb] {K:Nat} {e:EnvP}
theorem aA7 {w t:Int} (hK:EOk K e) (hk:K≤100000000):aaW SweepV.o (agR e.l w t) (aaC (agR e.l w t .l1) e) (abA w t e .l1):=by
 have hl:e.evs.length≤999999999:=by have:=hK.ev; omega
 have hm:∀ m v,aep { e with m:=m } v=some ((),({ e with m:=m,evs:=e.evs++[v] },())):=fun m v =>acj (e:={ e with m:=m }) hl
 by_cases c1:t<0
 ·have hf:¬ IsT e t∨e.c.age=0:=.inl fun h =>by have:=h.1; omega
  simp only [abA]
  rw [if_pos hf]
  simp only [aaC,abD,c1,aav,abh,o0,Option.bind_some,Bool.false_eq_true,if_false,reduceIte,Int.reduceEq]
  exact ⟨_,rfl,rfl⟩
 by_cases c2:e.c.tasks≤t
 ·have hf:¬ IsT e t∨e.c.age=0:=.inl fun h =>by have:=h.2; omega
  simp only [abA]
  rw [if_pos hf]
  simp only [aaC,abD,c1,c2,aav,abh,o0,Option.bind_some,Bool.false_eq_true,if_false,reduceIte,Int.reduceEq]
  exact ⟨_,rfl,rfl⟩
 by_cases c3:e.c.age=0
 ·have hf:¬ IsT e t∨e.c.age=0:=.inr c3
  simp only [abA]
  rw [if_pos hf]
  simp only [aaC,abD,c1,c2,c3,decide_true,aav,abh,o0,Option.bind_some,Bool.false_eq_true,if_false,reduceIte,Int.reduceEq]
  exact ⟨_,rfl,rfl⟩
 have hf:¬ (¬ IsT e t∨e.c.age=0):=fun h =>h.elim (fun h =>h ⟨by omega,by omega⟩) c3
 simp only [abA]
 rw [if_neg hf]
 simp only [aaC,abD,c1,c2,c3,decide_false,aav,abh,o0,Option.bind_some,Bool.false_eq_true,if_true,reduceIte,Int.reduceEq,ae0,abx,decide_eq_true_eq,aa1]
 refine aaW.iteL (fun h =>?_) fun h =>?_
 ·rw [if_neg h]; exact ⟨_,rfl,rfl⟩
 ·rw [if_pos (Classical.not_not.1 h)]; rfl
theorem aA6 {w t:Int} (hK:EOk K e) (hk:K≤100000000):aaW SweepV.o (agR e.l w t) (aaC (agR e.l w t .l2) e) (abA w t e .l2):=by
 have hl:e.evs.length≤999999999:=by have:=hK.ev; omega
 have hm:∀ m v,aep { e with m:=m } v=some ((),({ e with m:=m,evs:=e.evs++[v] },())):=fun m v =>acj (e:={ e with m:=m }) hl
 simp only [abA,aaC,abD,aav,abh,arX,o0,Option.bind_some,if_true,Bool.false_eq_true,if_false,reduceIte,Int.reduceEq,ajw,abx,decide_eq_true_eq,aa1]
 exact aaW.ite (fun _ =>⟨_,rfl,rfl⟩) fun _ =>rfl
theorem aA5 {w t:Int} (hK:EOk K e) (hk:K≤100000000):aaW SweepV.o (agR e.l w t) (aaC (agR e.l w t .l3) e) (abA w t e .l3):=by
 have hl:e.evs.length≤999999999:=by have:=hK.ev; omega
 have hm:∀ m v,aep { e with m:=m } v=some ((),({ e with m:=m,evs:=e.evs++[v] },())):=fun m v =>acj (e:={ e with m:=m }) hl
 simp only [abA,aaC,abD,aav,abh,o0,Option.bind_some,if_true,Bool.false_eq_true,if_false,reduceIte,Int.reduceEq,afM,abx,decide_eq_true_eq,aa1]
 exact aaW.ite (fun _ =>⟨_,rfl,rfl⟩) fun _ =>rfl
theorem aA4 {w t:Int} (hK:EOk K e) (hk:K≤100000000) (q:Int):aaW SweepV.o (agR e.l w t) (aaC (agR e.l w t (.l4 q)) e) (abA w t e (.l4 q)):=by
 have hl:e.evs.length≤999999999:=by have:=hK.ev; omega
 have hm:∀ m v,aep { e with m:=m } v=some ((),({ e with m:=m,evs:=e.evs++[v] },())):=fun m v =>acj (e:={ e with m:=m }) hl
 have he:∀ x:SweepV MV,abK x 12=some ((⟨12,x.worker,x.task,0,wi (wi x.q+1)⟩,()),(x,())):=fun x =>id rfl
 simp only [abA,aaC,he,aav,abh,o0,Option.bind_some,if_true,Bool.false_eq_true,if_false,reduceIte,Int.reduceEq,afM,ajB,hm]
 exact aaW.iteN (fun _ =>rfl) fun _ =>⟨_,rfl,rfl⟩
theorem aA3 {w t:Int} (hK:EOk K e) (hk:K≤100000000) (q:Int):aaW SweepV.o (agR e.l w t) (aaC (agR e.l w t (.l5 q)) e) (abA w t e (.l5 q)):=by
 have hl:e.evs.length≤999999999:=by have:=hK.ev; omega
 have hm:∀ m v,aep { e with m:=m } v=some ((),({ e with m:=m,evs:=e.evs++[v] },())):=fun m v =>acj (e:={ e with m:=m }) hl
 simp only [abA,aaC,aav,abh,arX,o0,Option.bind_some,if_true,Bool.false_eq_true,if_false,reduceIte,Int.reduceEq,ajw,abt,acH]
 rfl
theorem bnd {α β:Type} {a:α} {f:α→Option β}:(some a).bind f=f a:=by
 generalize h:some a=x
 subst h
 rfl
theorem aA2 {w t:Int} (hK:EOk K e) (hk:K≤100000000) (q:Int) (s:LPushS):aaW SweepV.o (agR e.l w t) (aaC (agR e.l w t (.l6 q s)) e) (abA w t e (.l6 q s)):=by
 have h:=ajD (w:=w) (v:=wi (wi q+1)) (x:=t) hK s
 have hn:=agD (e:=e) (w:=w) (v:=wi (wi q+1)) (x:=t) s
 have he:∀ x:SweepV MV,abK x 19=some ((⟨19,x.worker,x.task,0,wi (wi x.q+1)⟩,()),(x,())):=fun x =>id rfl
 revert h hn
 simp only [abA,aaC,he,bnd,aav,abh,o0,adW,if_true,Bool.false_eq_true,if_false,reduceIte,Int.reduceEq]
 rcases ace w (wi (wi q+1)) t e s with ⟨r | ⟨c,y⟩,e'⟩<;>intro h hn
 ·simp only [aaW] at h
  simp only [h,bnd,Bool.not_false,if_true]
  rfl
 ·simp only [aaW] at h
  obtain ⟨x',h,ho⟩:=h
  have hl':e'.evs.length≤999999999:=by have h1:e'.evs.length≤e.evs.length+0:=hn.ev; have:=hK.ev; omega
  simp only [h,ho,abv,bnd,Bool.not_true,Bool.false_eq_true,if_true,if_false,acj hl']
  by_cases hc:c=3
  ·simp only [hc,if_true]; exact ⟨_,rfl,rfl⟩
  ·simp only [hc,if_false]; exact ⟨_,rfl,rfl⟩
theorem ax7 {w t:Int} (hK:EOk K e) (hk:K≤100000000) (s:SweepS):aaW SweepV.o (agR e.l w t) (aaC (agR e.l w t s) e) (abA w t e s):=by
 cases s with
 | l1 =>exact aA7 hK hk
 | l2 =>exact aA6 hK hk
 | l3 =>exact aA5 hK hk
 | l4 q =>exact aA4 hK hk q
 | l5 q =>exact aA3 hK hk q
 | l6 q s =>exact aA2 hK hk q s
end
section
variable [Tb] {K:Nat} {e:EnvP}
theorem azF {w:Int} {l:LayV} {ln:Int} {m:MV} {d:DrainS} {e':EnvP}:aaW DrainV.o (aw4 l w) (((aa0 ⟨⟨false,0,0⟩,w,ln,m,d.x,d.direct,d.p,d.last,d.count⟩).bind fun r =>some ((r.1.1,()),(r.2.1,e',()))).bind fun r =>some ((r.1.1,()),(r.2.1,r.2.2.1,()))) (ah3 d,e'):=by
 obtain ⟨x,b,p,la,n,c⟩:=d
 unfold ah3
 simp only [aa0,abh,bnd,o0,acn,aa1]
 exact aaW.ite (fun _ =>⟨_,rfl,rfl⟩) fun _ =>aaW.ite (fun _ =>⟨_,rfl,rfl⟩) fun _ =>⟨_,rfl,rfl⟩
def as9 (d:DrainS):Prop:=match d.c with
 | .l6 =>True
 | .l7 _ =>True
 | _ =>d.direct=false
theorem azX {w:Int} (hK:EOk K e) (hk:K≤100000000) (d:DrainS) (hd:as9 d):aaW DrainV.o (aw4 e.l w) (abl (aw4 e.l w d) e) (abI w e d):=by
 have hl:e.evs.length≤999999999:=by have:=hK.ev; omega
 obtain ⟨x,b,p,la,n,c⟩:=d
 cases c with
 | l1 =>
  simp only [abI,abl,aaL,avu,aav,abh,agn,o0,abx,bnd,if_true,Bool.false_eq_true,if_false,reduceIte,Int.reduceEq,aa1]
  exact aaW.ite (fun _ =>⟨_,rfl,rfl⟩) fun _ =>rfl
 | l2 =>
  obtain ⟨dn,x',h,ho,hd,_⟩:=asd (e:=e) (w:=w) (b:=true)
  rw [Bool.or_true] at hd
  subst hd
  have ho:=ho rfl
  simp only [o0] at h
  simp only [abI,abl,acS,abo,aaL,afA,aav,abh,o0,adW,h,bnd,if_true,Bool.false_eq_true,if_false,reduceIte,Int.reduceEq,abv,Bool.not_true]
  rcases Bool.eq_false_or_eq_true (e.hit 1 0) with hh | hh
  ·simp only [hh,if_true] at ho ⊢
   simp only [ho,reduceIte,Int.reduceEq]
   rfl
  ·simp only [hh,Bool.false_eq_true,if_false] at ho ⊢
   simp only [ho,reduceIte,Int.reduceEq]
   exact ⟨_,rfl,rfl⟩
 | l3 s =>
  have h:=axx (e:=e) (w:=w) hl s
  have hn:=atF (e:=e) (w:=w) s
  revert h hn
  simp only [abI,abl,aav,abh,o0,adW,bnd,if_true,Bool.false_eq_true,if_false,reduceIte,Int.reduceEq]
  rcases aby w e s with ⟨r | ⟨c,y⟩,e'⟩<;>intro h hn
  ·simp only [aaW] at h
   simp only [h,bnd,Bool.not_false,if_true]
   rfl
  ·simp only [aaW] at h
   obtain ⟨x',h,ho⟩:=h
   simp only [h,ho,abv,acS,aa2,aaL,afo,bnd,Bool.not_true,Bool.false_eq_true,if_true,if_false,reduceIte,Int.reduceEq,acn,aa1]
   exact aaW.ite (fun _ =>rfl) fun _ =>rfl
 | l4 =>
  simp only [abI,abl,aaL,acH,aav,abh,o0,afM,abx,bnd,if_true,Bool.false_eq_true,if_false,reduceIte,Int.reduceEq]
  rfl
 | l5 s =>
  have h:=ajD (w:=w) (v:=p) (x:=x) hK s
  have hn:=agD (e:=e) (w:=w) (v:=p) (x:=x) s
  revert h hn
  simp only [abI,abl,aav,abh,o0,adW,bnd,if_true,Bool.false_eq_true,if_false,reduceIte,Int.reduceEq]
  rcases ace w p x e s with ⟨r | ⟨c,y⟩,e'⟩<;>intro h hn
  ·simp only [aaW] at h
   simp only [h,bnd,Bool.not_false,if_true]
   rfl
  ·simp only [aaW] at h
   obtain ⟨x',h,ho⟩:=h
   have hc:e'.c=e.c:=hn.c
   simp only [h,ho,abv,acS,ac1,abo,aa2,aaL,afA,afo,bnd,Bool.not_true,Bool.false_eq_true,if_true,if_false,reduceIte,Int.reduceEq,acn,aa1,hc]
   have hb:b=false:=hd
   subst hb
   simp only [Bool.false_eq_true,if_false]
   exact aaW.ite (fun _ =>rfl) fun _ =>aaW.ite (fun _ =>rfl) fun _ =>rfl
 | l6 =>
  obtain ⟨x',h,ho⟩:=awY (e:=e)
  simp only [o0] at h
  simp only [abI,abl,acS,aaL,ac8,aav,abh,o0,adW,h,ho,bnd,if_true,Bool.false_eq_true,if_false,reduceIte,Int.reduceEq,abv,Bool.not_true,acn,aa1]
  exact aaW.ite (fun _ =>rfl) fun _ =>azF (d:=⟨x,b,p,la,n,.l6⟩)
 | l7 s =>
  have h:=als (e:=e) (w:=w) (v:=la) hl s
  revert h
  simp only [abI,abl,aav,abh,o0,adW,bnd,if_true,Bool.false_eq_true,if_false,reduceIte,Int.reduceEq]
  rcases aev w la e s with ⟨r | ⟨c,y⟩,e'⟩<;>intro h
  ·simp only [aaW] at h
   simp only [h,bnd,Bool.not_false,if_true]
   rfl
  ·simp only [aaW] at h
   obtain ⟨x',h,ho⟩:=h
   simp only [h,ho,abv,acS,bnd,Bool.not_true,Bool.false_eq_true,if_true,if_false,reduceIte,Int.reduceEq]
   exact azF (d:=⟨x,b,p,la,n,.l7 s⟩)
theorem aCp {w:Int} {d d':DrainS} {e':EnvP} (hd:as9 d) (h:abI w e d=(.go d',e')):as9 d':=by
 obtain ⟨x,b,p,la,n,c⟩:=d
 cases c with
 | l1 =>
  simp only [abI] at h
  split at h<;>cases h
  exact hd
 | l2 =>
  simp only [abI] at h
  split at h<;>cases h
  exact hd
 | l3 s =>
  simp only [abI] at h
  split at h
  ·cases h; exact hd
  ·split at h<;>cases h
   ·trivial
   ·exact hd
 | l4 =>cases h; exact hd
 | l5 s =>
  simp only [abI] at h
  split at h
  ·cases h; exact hd
  ·split at h
   ·cases h; trivial
   ·split at h<;>cases h
    ·exact hd
    ·trivial
 | l6 =>
  simp only [abI] at h
  split at h
  ·cases h; trivial
  ·unfold ah3 at h
   repeat' split at h
   all_goals cases h
 | l7 s =>
  simp only [abI] at h
  split at h
  ·cases h; trivial
  ·unfold ah3 at h
   repeat' split at h
   all_goals cases h
end
end
end Go.Proofs.YtdnimkpfgjcjeaaGreat
