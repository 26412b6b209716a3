/- The cells of an engine's memory by kinds: what each may hold; what the places of the layout are. What a step leaves alone: levels and Next; the machines that run none inside. The keys of the injector: what their low bits are. The queue of the injector as the events say it; packed keys. No program occurs here. The program's queue does what the events say. Raises; the machines that run others inside,up to Drain. Run,a worker,the client: what a step does with levels,Next and the events; who publishes a task. A worker and the client: what a step does with levels,Next and the events. -/
import Derived.Test.YtdnimkpfgjcjeaaGreatEzao
import Derived.Test.YtdnimkpfgjcjeaaGreatEzam
set_option linter.all false
namespace Go.Proofs.YtdnimkpfgjcjeaaGreat
section
open Go Go.RowKit
set_option maxRecDepth 100000
variable [Tb]
theorem ae9 {x:Int} (h:0≤x∧x≤1000000000000):wu x=x:=by
 show IntKind.u64.wrap x=x
 simp [IntKind.wrap,IntKind.signed,IntKind.bits,IntKind.min,IntKind.max]
 omega
def ckC (c:Cfg) (a:Int):Int :=
 if a<0 then 9 else if a=0 then 0 else if a<4 then 1 else if a<4+c.heap then 2 else if a<(aaE c).queues then 3
 else if a<(aaE c).table then (if (a-(aaE c).queues) % (2+c.deque)<2 then 4 else 5)
 else if (a-(aaE c).table) % 5=1 then 6 else 7
structure CellOk (c:Cfg) (a x:Int):Prop where
 p:0≤x
 s:ckC c a=2→aoz x 65535<c.tasks
 r:ckC c a=5→x<c.tasks
 l:ckC c a=6→x<c.levels
def Fr (c:Cfg) (a:Int):Prop:=ckC c a≠0∧ckC c a≠2∧ckC c a≠5∧ckC c a≠6
theorem Fr.ok {c:Cfg} {a x:Int} (h:Fr c a) (hx:0≤x):CellOk c a x:=⟨hx,fun k =>absurd k h.2.1,fun k =>absurd k h.2.2.1,fun k =>absurd k h.2.2.2⟩
theorem aqQ {c:Cfg} {a k:Int} (h:ckC c a=k) (hk:k=1∨k=3∨k=4∨k=7∨k=9):Fr c a:=by
 unfold Fr; rw [h]; omega
section
variable {c:Cfg}
theorem DecOk.rg (h:DecOk c):(0≤c.workers*c.levels∧c.workers*c.levels≤16)∧(0≤c.workers*c.levels*(2+c.deque)∧c.workers*c.levels*(2+c.deque)≤96):=by
 have h1:=h.w
 have h2:=h.l
 have h3:=h.q
 have e1:=azd (a:=c.workers) (b:=c.levels) (A:=4) (B:=4) (by omega) (by omega) (by omega) (by omega)
 have e2:=azd (a:=c.workers*c.levels) (b:=2+c.deque) (A:=16) (B:=6) e1.1 (by omega) (by omega) (by omega)
 omega
theorem agd:ckC c (-1)=9:=by unfold ckC; rw [if_pos (by omega)]
theorem ahD (h:DecOk c):4+c.heap≤(aaE c).queues∧(aaE c).queues≤(aaE c).table∧(aaE c).table≤200∧(aaE c).table=(aaE c).queues+c.workers*c.levels*(2+c.deque):=by
 have h1:=h.w
 have h2:=h.l
 have h3:=h.q
 have h4:=h.h
 have h5:=h.k
 have e:=h.rg
 refine ⟨?_,?_,?_,?_⟩<;>show _<;>unfold aaE<;>simp only<;>omega
theorem asN (h:DecOk c) {a:Int} (ha:1≤a∧a≤3):ckC c a=1:=by
 unfold ckC; rw [if_neg (by omega),if_neg (by omega),if_pos (by omega)]
theorem az7 (h:DecOk c) {t f:Int} (ht:0≤t) (hf:0≤f∧f<5):ckC c ((aaE c).table+f+t*5)=if f=1 then 6 else 7:=by
 have e:=ahD h
 have h4:=h.h
 unfold ckC
 rw [if_neg (by omega),if_neg (by omega),if_neg (by omega),if_neg (by omega),if_neg (by omega),if_neg (by omega)]
 by_cases hf1:f=1
 ·rw [if_pos (by omega),if_pos hf1]
 ·rw [if_neg (by omega),if_neg hf1]
theorem aft (h:DecOk c) {t f:Int} (hf:0≤f∧f<5):aeH (aaE c) t f=if 0≤t∧t<c.tasks then (aaE c).table+f+t*5 else -1:=by
 have e:=ahD h
 have h4:=h.t
 have h5:=h.h
 have h6:=h.rg
 unfold aeH atP
 have e1:(aaE c).tasks=c.tasks:=rfl
 rw [e1]
 by_cases h1:t<0
 ·rw [if_pos h1,if_neg (by omega)]
 rw [if_neg h1]
 by_cases h2:c.tasks≤t
 ·rw [if_pos h2,if_neg (by omega)]
 rw [if_neg h2,if_pos (by omega),aaw (x:=(aaE c).table+f) (aai (by omega)),aaw (x:=t*5) (aai (by omega)),aaw (aai (by omega))]
theorem aoU (h:DecOk c) {t f:Int} (hf:0≤f∧f<5):ckC c (aeH (aaE c) t f)=if 0≤t∧t<c.tasks then (if f=1 then 6 else 7) else 9:=by
 rw [aft h hf]
 split
 ·rename_i h1; rw [az7 h h1.1 hf]
 ·rw [agd]
theorem asw (h:DecOk c) {t f:Int} (hf:0≤f∧f<5) (hf1:f≠1):Fr c (aeH (aaE c) t f):=by
 refine aqQ rfl ?_
 rw [aoU h hf,if_neg hf1]
 split<;>omega
theorem agF (h:DecOk c) {t:Int}:Fr c (adr (aaE c) t):=asw h (by omega) (by omega)
theorem asx (h:DecOk c) {t:Int}:Fr c (ag3 (aaE c) t):=asw h (by omega) (by omega)
theorem asv (h:DecOk c) {t:Int}:Fr c (afJ (aaE c) t):=asw h (by omega) (by omega)
theorem aoO (h:DecOk c) {t:Int}:Fr c (akL (aaE c) t):=asw h (by omega) (by omega)
theorem aqb (h:DecOk c) {a:Int} (ha:1≤a∧a≤3):Fr c a:=aqQ (asN h ha) (by omega)
theorem aIt {i n a w:Int} (hn:n≤1000) (ha:0≤a∧a≤1000) (hw:w=1):atP i n a w=if 0≤i∧i<n then a+i else -1:=by
 subst hw
 unfold atP
 by_cases h1:i<0
 ·rw [if_pos h1,if_neg (by omega)]
 rw [if_neg h1]
 by_cases h2:n≤i
 ·rw [if_pos h2,if_neg (by omega)]
 rw [if_neg h2,if_pos (by omega),Int.mul_one,aaw (x:=i) (aai (by omega)),aaw (aai (by omega))]
theorem aql (h:DecOk c) {a:Int} (ha:4+c.heap≤a∧a<(aaE c).queues):ckC c a=3:=by
 have h4:=h.h
 unfold ckC
 rw [if_neg (by omega),if_neg (by omega),if_neg (by omega),if_neg (by omega),if_pos (by omega)]
theorem apw:(aaE c).queues=4+c.heap+c.classes+c.workers+c.workers:=rfl
theorem axg (h:DecOk c) {w:Int}:ckC c (ago (aaE c) w)=3∨ckC c (ago (aaE c) w)=9:=by
 have h1:=h.w
 have h4:=h.h
 have h5:=h.k
 unfold ago
 show ckC c (atP w c.workers (4+c.heap+c.classes) 1)=3∨ckC c (atP w c.workers (4+c.heap+c.classes) 1)=9
 rw [aIt (show c.workers≤1000 by omega) (show 0≤4+c.heap+c.classes∧4+c.heap+c.classes≤1000 by omega) rfl]
 split
 ·rename_i h'
  have h':0≤w∧w<c.workers:=h'
  refine .inl (aql h ?_)
  show 4+c.heap≤4+c.heap+c.classes+w∧4+c.heap+c.classes+w<_
  rw [apw]; omega
 ·exact .inr agd
theorem aB9 (h:DecOk c) {w:Int}:Fr c (ago (aaE c) w):=aqQ rfl (by have:=axg h (w:=w); omega)
theorem auA (h:DecOk c) {w:Int}:ckC c (aaN (aaE c) w)=3∨ckC c (aaN (aaE c) w)=9:=by
 have h1:=h.w
 have h4:=h.h
 have h5:=h.k
 unfold aaN
 show ckC c (atP w c.workers (4+c.heap+c.classes+c.workers) 1)=3∨ckC c (atP w c.workers (4+c.heap+c.classes+c.workers) 1)=9
 rw [aIt (show c.workers≤1000 by omega) (show 0≤4+c.heap+c.classes+c.workers∧4+c.heap+c.classes+c.workers≤1000 by omega) rfl]
 split
 ·rename_i h'
  have h':0≤w∧w<c.workers:=h'
  refine .inl (aql h ?_)
  show 4+c.heap≤4+c.heap+c.classes+c.workers+w∧4+c.heap+c.classes+c.workers+w<_
  rw [apw]; omega
 ·exact .inr agd
theorem aqc (h:DecOk c) {w:Int}:Fr c (aaN (aaE c) w):=aqQ rfl (by have:=auA h (w:=w); omega)
theorem aqu (h:DecOk c) {w:Int}:ckC c (ahF (aaE c) w)=3∨ckC c (ahF (aaE c) w)=9:=by
 have h1:=h.w
 have h4:=h.h
 have h5:=h.k
 unfold ahF
 show ckC c (atP w c.classes (4+c.heap) 1)=3∨ckC c (atP w c.classes (4+c.heap) 1)=9
 rw [aIt (show c.classes≤1000 by omega) (show 0≤4+c.heap∧4+c.heap≤1000 by omega) rfl]
 split
 ·rename_i h'
  have h':0≤w∧w<c.classes:=h'
  refine .inl (aql h ?_)
  show 4+c.heap≤4+c.heap+w∧4+c.heap+w<_
  rw [apw]; omega
 ·exact .inr agd
theorem amu (h:DecOk c) {i:Int}:ckC c (aeo (aaE c) i)=2∨ckC c (aeo (aaE c) i)=9:=by
 have h4:=h.h
 unfold aeo
 show ckC c (atP i c.heap 4 1)=2∨ckC c (atP i c.heap 4 1)=9
 rw [aIt (show c.heap≤1000 by omega) (show (0:Int)≤4∧(4:Int)≤1000 by omega) rfl]
 split
 ·rename_i h'
  have h':0≤i∧i<c.heap:=h'
  refine .inl ?_
  unfold ckC
  rw [if_neg (by omega),if_neg (by omega),if_neg (by omega),if_pos (by omega)]
 ·exact .inr agd
theorem aEE (h:DecOk c) {i x:Int} (h1:0≤x) (h2:aoz x 65535<c.tasks):CellOk c (aeo (aaE c) i) x:=by
 have e:=amu h (i:=i)
 exact ⟨h1,fun _ =>h2,fun k =>by omega,fun k =>by omega⟩
def bq (c:Cfg) (k:Int):QV:=⟨(aaE c).queues+k*(2+c.deque),(aaE c).queues+k*(2+c.deque)+1,(aaE c).queues+k*(2+c.deque)+2,c.deque⟩
theorem aJH {i n a w:Int} (hn:n≤10) (ha:0≤a∧a≤1000) (hw:0≤w∧w≤100):atP i n a w=if 0≤i∧i<n then a+i*w else -1:=by
 unfold atP
 by_cases h1:i<0
 ·rw [if_pos h1,if_neg (by omega)]
 rw [if_neg h1]
 by_cases h2:n≤i
 ·rw [if_pos h2,if_neg (by omega)]
 have h3:=azd (a:=i) (b:=w) (A:=10) (B:=100) (by omega) (by omega) (by omega) (by omega)
 rw [if_neg h2,if_pos (by omega),aaw (x:=i*w) (aai (by omega)),aaw (aai (by omega))]
theorem ayB (h:DecOk c) (w v:Int):(¬ ((0≤w∧w<c.workers)∧0≤v∧v<c.levels)∧aax (aaE c) w v=⟨-1,-1,-1,0⟩)∨(((0≤w∧w<c.workers)∧0≤v∧v<c.levels)∧(0≤w*c.levels+v∧w*c.levels+v<c.workers*c.levels)∧aax (aaE c) w v=bq c (w*c.levels+v)):=by
 have h1:=h.w
 have h2:=h.l
 have h3:=h.q
 have e:=ahD h
 have h4:=h.h
 have e1:=azd (a:=c.levels) (b:=2+c.deque) (A:=4) (B:=6) (by omega) (by omega) (by omega) (by omega)
 have e2:wi (c.levels*wi (2+c.deque))=c.levels*(2+c.deque):=by
  rw [aaw (x:=2+c.deque) (aai (by omega)),aaw (aai (by omega))]
 have e3:wi (2+c.deque)=2+c.deque:=aaw (aai (by omega))
 have ea:atP w c.workers (aaE c).queues (c.levels*(2+c.deque))=if 0≤w∧w<c.workers then (aaE c).queues+w*(c.levels*(2+c.deque)) else -1:=aJH (by omega) (by omega) (by omega)
 unfold aax
 show (¬ _∧(if atP w c.workers (aaE c).queues (wi (c.levels*wi (2+c.deque)))<0 then _ else if atP v c.levels (atP w c.workers (aaE c).queues (wi (c.levels*wi (2+c.deque)))) (wi (2+c.deque))<0 then _
  else QV.mk (atP v c.levels (atP w c.workers (aaE c).queues (wi (c.levels*wi (2+c.deque)))) (wi (2+c.deque))) (wi (atP v c.levels (atP w c.workers (aaE c).queues (wi (c.levels*wi (2+c.deque)))) (wi (2+c.deque))+1)) (wi (atP v c.levels (atP w c.workers (aaE c).queues (wi (c.levels*wi (2+c.deque)))) (wi (2+c.deque))+2)) c.deque)=_)∨(_∧_∧(if atP w c.workers (aaE c).queues (wi (c.levels*wi (2+c.deque)))<0 then _ else if atP v c.levels (atP w c.workers (aaE c).queues (wi (c.levels*wi (2+c.deque)))) (wi (2+c.deque))<0 then _
  else QV.mk (atP v c.levels (atP w c.workers (aaE c).queues (wi (c.levels*wi (2+c.deque)))) (wi (2+c.deque))) (wi (atP v c.levels (atP w c.workers (aaE c).queues (wi (c.levels*wi (2+c.deque)))) (wi (2+c.deque))+1)) (wi (atP v c.levels (atP w c.workers (aaE c).queues (wi (c.levels*wi (2+c.deque)))) (wi (2+c.deque))+2)) c.deque)=_)
 rw [e2,e3,ea]
 by_cases hw:0≤w∧w<c.workers
 ·rw [if_pos hw]
  have e4:=azd (a:=w) (b:=c.levels*(2+c.deque)) (A:=4) (B:=24) (by omega) (by omega) (by omega) (by omega)
  have eb:atP v c.levels ((aaE c).queues+w*(c.levels*(2+c.deque))) (2+c.deque)=if 0≤v∧v<c.levels then (aaE c).queues+w*(c.levels*(2+c.deque))+v*(2+c.deque) else -1:=aJH (by omega) (by omega) (by omega)
  rw [if_neg (by omega),eb]
  by_cases hv:0≤v∧v<c.levels
  ·rw [if_pos hv]
   have e5:=azd (a:=v) (b:=2+c.deque) (A:=4) (B:=6) (by omega) (by omega) (by omega) (by omega)
   have e6:=azd (a:=w) (b:=c.levels) (A:=4) (B:=4) (by omega) (by omega) (by omega) (by omega)
   have e7:(w*c.levels+v)*(2+c.deque)=w*(c.levels*(2+c.deque))+v*(2+c.deque):=by rw [Int.add_mul,Int.mul_assoc]
   rw [if_neg (by omega)]
   refine .inr ⟨⟨hw,hv⟩,⟨by omega,?_⟩,?_⟩
   ·have:c.levels=1∨c.levels=2∨c.levels=3∨c.levels=4:=by omega
    rcases this with e | e | e | e<;>rw [e] at hv ⊢<;>omega
   ·unfold bq
    rw [e7,aaw (aai (by omega)),aaw (aai (by omega)),← Int.add_assoc]
  ·rw [if_neg hv,if_pos (by omega)]; exact .inl ⟨fun h =>hv h.2,rfl⟩
 ·rw [if_neg hw,if_pos (by omega)]; exact .inl ⟨fun h =>hw h.1,rfl⟩
theorem agU (h:DecOk c) (w v:Int):aax (aaE c) w v=⟨-1,-1,-1,0⟩∨∃ k,0≤k∧k<c.workers*c.levels∧aax (aaE c) w v=bq c k:=by
 rcases ayB h w v with ⟨_,e⟩ | ⟨_,⟨e1,e2⟩,e⟩
 ·exact .inl e
 ·exact .inr ⟨_,e1,e2,e⟩
theorem aus (h:DecOk c) {k j:Int} (hk:0≤k∧k<c.workers*c.levels) (hj:0≤j∧j<2+c.deque):ckC c ((aaE c).queues+k*(2+c.deque)+j)=if j<2 then 4 else 5:=by
 have e:=ahD h
 have h4:=h.h
 have h3:=h.q
 have e1:(k+1)*(2+c.deque)≤c.workers*c.levels*(2+c.deque):=Int.mul_le_mul_of_nonneg_right (by omega) (by omega)
 have e2:(k+1)*(2+c.deque)=k*(2+c.deque)+(2+c.deque):=by rw [Int.add_mul,Int.one_mul]
 have e3:0≤k*(2+c.deque):=Int.mul_nonneg hk.1 (by omega)
 have e4:((aaE c).queues+k*(2+c.deque)+j-(aaE c).queues) % (2+c.deque)=j:=by
  have:(aaE c).queues+k*(2+c.deque)+j-(aaE c).queues=j+k*(2+c.deque):=by omega
  rw [this,Int.add_mul_emod_self_right,Int.emod_eq_of_lt hj.1 hj.2]
 unfold ckC
 rw [if_neg (by omega),if_neg (by omega),if_neg (by omega),if_neg (by omega),if_neg (by omega),if_pos (by omega),e4]
theorem aDc (h:DecOk c) (w v:Int):Fr c (aax (aaE c) w v).top:=by
 have h3:=h.q
 rcases agU h w v with e | ⟨k,h1,h2,e⟩<;>rw [e]
 ·exact aqQ agd (by omega)
 ·have:=aus h ⟨h1,h2⟩ (j:=0) (by omega)
  rw [Int.add_zero,if_pos (by omega)] at this
  exact aqQ this (by omega)
theorem amp (h:DecOk c) (w v:Int):Fr c (aax (aaE c) w v).bottom:=by
 have h3:=h.q
 rcases agU h w v with e | ⟨k,h1,h2,e⟩<;>rw [e]
 ·exact aqQ agd (by omega)
 ·have:=aus h ⟨h1,h2⟩ (j:=1) (by omega)
  rw [if_pos (by omega)] at this
  exact aqQ this (by omega)
theorem aoV (h:DecOk c) (w v:Int) {b:Int} (hb:0≤b):ckC c (ag9 (aax (aaE c) w v) b)=5∨ckC c (ag9 (aax (aaE c) w v) b)=9:=by
 have h3:=h.q
 rcases agU h w v with e | ⟨k,h1,h2,e⟩<;>rw [e]
 ·refine .inr ?_
  unfold ag9
  rw [if_pos (by show (0:Int)<1; omega),agd]
 ·refine .inl ?_
  have e0:=ahD h
  have h4:=h.h
  have h5:=h.rg
  have e1:=arw (a:=b) (b:=c.deque) (by omega) hb
  have e2:k*(2+c.deque)≤c.workers*c.levels*(2+c.deque):=Int.mul_le_mul_of_nonneg_right (by omega) (by omega)
  have e3:0≤k*(2+c.deque):=Int.mul_nonneg h1 (by omega)
  unfold ag9 bq
  simp only
  rw [if_neg (by omega),ae9 (x:=c.deque) (by omega),aaw (x:=Int.tmod b c.deque) (aai (by omega)),aaw (aai (by omega))]
  have:=aus h ⟨h1,h2⟩ (j:=2+Int.tmod b c.deque) (by omega)
  rw [if_neg (by omega),← Int.add_assoc] at this
  exact this
theorem aEF (h:DecOk c) (w v:Int) {b x:Int} (hb:0≤b) (hx:0≤x∧x<c.tasks):CellOk c (ag9 (aax (aaE c) w v) b) x:=by
 have e:=aoV h w v hb
 exact ⟨hx.1,fun k =>by omega,fun k =>hx.2,fun k =>by omega⟩
end
theorem atd (x:Int):IntKind.u64.wrap x=x % 18446744073709551616:=by
 simp [IntKind.wrap,IntKind.signed,IntKind.bits]
theorem aho (a:Int):0≤wu a:=(aF7 a).1
theorem awG (a b:Int):0≤orU a b:=aho _
theorem anB (a b:Int):0≤aoz a b:=aho _
theorem ae4 {e:EnvP} {k a v b:Int}:(e.pt k a v).gt b=if b=a∧0≤a∧a<(e.m.cells.length:Int) then v else e.gt b:=by
 show (e.m.pt k a v).gt b=if _ then v else e.m.gt b
 unfold MemV.pt
 by_cases ha:0≤a∧a<(e.m.cells.length:Int)
 ·rw [if_pos ha]
  unfold MemV.gt
  simp only [List.length_set]
  by_cases hb:0≤b∧b<(e.m.cells.length:Int)
  ·rw [if_pos hb,if_pos hb]
   by_cases hab:b=a
   ·rw [if_pos ⟨hab,ha⟩,hab,ajX ha]
   ·rw [if_neg (fun h =>hab h.1)]
    show atL _ (e.m.cells.set a.toNat v) b=atL _ e.m.cells b
    unfold atL
    rw [List.getElem?_set_ne (by omega)]
  ·rw [if_neg hb,if_neg hb,if_neg (fun (h:b=a∧_) =>hb (by rw [h.1]; exact h.2))]
 ·rw [if_neg ha,if_neg (fun h =>ha h.2)]
theorem akE {e:EnvP} {a b:Int}:(e.lk a).gt b=e.gt b:=by
 have:(e.pt 1 a (e.gt a)).gt b=e.gt b:=by
  rw [ae4]
  split
  ·rename_i h; rw [h.1]
  ·rfl
 exact this
structure MI (c:Cfg) (e:EnvP):Prop where
 d:DecOk c
 l:e.l=aaE c
 cc:e.c=c
 ok:∀ a,CellOk c a (e.gt a)
def Pl (c:Cfg) (x:Ev):Prop:=(0≤x.task∧x.task<c.tasks)∧x.kind≠1∧x.kind≠3∧x.kind≠11∧x.kind≠12
abbrev Lv (c:Cfg) (e:EnvP) (t:Int):Int:=e.gt (abX (aaE c) t)
structure Qt (c:Cfg) (e e':EnvP):Prop where
 i:MI c e'
 lv:∀ t,Lv c e' t=Lv c e t
 nx:e'.gt 0=e.gt 0
 ev:∃ l,e'.evs=e.evs++l∧∀ x∈l,Pl c x
section
variable {c:Cfg} {e e':EnvP} {a v k o t:Int}
theorem MI.p (h:MI c e) (a:Int):0≤e.gt a:=(h.ok a).p
theorem MI.lk (h:MI c e):MI c (e.lk a):=⟨h.d,h.l,h.cc,fun b =>by rw [akE]; exact h.ok b⟩
theorem MI.pt (h:MI c e) (hv:CellOk c a v):MI c (e.pt k a v):=⟨h.d,h.l,h.cc,fun b =>by
 rw [ae4]
 split
 ·rename_i q; rw [q.1]; exact hv
 ·exact h.ok b⟩
theorem Qt.refl (h:MI c e):Qt c e e:=⟨h,fun _ =>rfl,rfl,[],by simp,fun x hx =>by cases hx⟩
theorem Qt.lk (h:MI c e):Qt c e (e.lk a):=⟨h.lk,fun _ =>akE,akE,[],by show e.evs=_; simp,fun x hx =>by cases hx⟩
theorem ag5 (h:DecOk c):ckC c (abX (aaE c) t)=6∨(ckC c (abX (aaE c) t)=9∧abX (aaE c) t=-1):=by
 have e1:=aoU h (t:=t) (f:=1) (by omega)
 have e2:=aft h (t:=t) (f:=1) (by omega)
 show ckC c (aeH (aaE c) t 1)=6∨(ckC c (aeH (aaE c) t 1)=9∧aeH (aaE c) t 1=-1)
 by_cases ht:0≤t∧t<c.tasks
 ·rw [e1,if_pos ht,if_pos rfl]; exact .inl rfl
 ·rw [e1,e2,if_neg ht,if_neg ht]; exact .inr ⟨rfl,rfl⟩
theorem afB:ckC c 0=0:=by unfold ckC; rw [if_neg (by omega),if_pos rfl]
theorem Qt.wr (h:MI c e) (h0:ckC c a≠0) (h6:ckC c a≠6) (hv:CellOk c a v):Qt c e (e.pt k a v):=by
 refine ⟨h.pt hv,fun t =>?_,?_,[],by show e.evs=_; simp,fun x hx =>by cases hx⟩
 ·show (e.pt k a v).gt _=e.gt _
  rw [ae4]
  split
  ·rename_i q
   rcases ag5 h.d (t:=t) with h1 | ⟨_,h1⟩
   ·rw [q.1] at h1; exact absurd h1 h6
   ·omega
  ·rfl
 ·rw [ae4]
  split
  ·rename_i q
   rw [← q.1] at h0
   exact absurd afB h0
  ·rfl
theorem Qt.fr (h:MI c e) (ha:Fr c a) (hv:0≤v):Qt c e (e.pt k a v):=.wr h ha.1 ha.2.2.2 (ha.ok hv)
theorem Qt.cas (h:MI c e) (ha:Fr c a) (hv:0≤v):Qt c e (e.cas a o v):=by
 refine Qt.fr h ha ?_
 show 0≤if _ then v else e.m.gt a
 split
 ·exact hv
 ·exact h.p a
theorem Qt.ring (h:MI c e) (w u:Int) {b:Int} (hb:0≤b) (hv:0≤v∧v<c.tasks):Qt c e (e.pt k (ag9 (aax (aaE c) w u) b) v):=by
 have:=aoV h.d w u hb
 exact .wr h (by omega) (by omega) (aEF h.d w u hb hv)
def ad2 (c:Cfg) (k:Int):Prop:=0≤k∧aoz k 65535<c.tasks
theorem Qt.slot (h:MI c e) {i:Int} (hv:ad2 c v):Qt c e (e.pt k (aeo (aaE c) i) v):=by
 have:=amu h.d (i:=i)
 exact .wr h (by omega) (by omega) (aEE h.d hv.1 hv.2)
theorem Qt.em {w l:Int} (h:Qt c e e') (ht:0≤t∧t<c.tasks) (hk:k≠1∧k≠3∧k≠11∧k≠12):Qt c e (e'.em k w t o l):=by
 obtain ⟨m,hm,hp⟩:=h.ev
 refine ⟨⟨h.i.d,h.i.l,h.i.cc,h.i.ok⟩,h.lv,h.nx,m++[⟨k,w,t,o,l⟩],?_,fun x hx =>?_⟩
 ·show e'.evs++[_]=_
  rw [hm,List.append_assoc]
 ·rcases List.mem_append.1 hx with hx | hx
  ·exact hp x hx
  ·rw [List.mem_singleton.1 hx]
   exact ⟨ht,hk⟩
theorem Qt.pr {r:RecP} (h:Qt c e e'):Qt c e (e'.pr t r):=⟨⟨h.i.d,h.i.l,h.i.cc,h.i.ok⟩,h.lv,h.nx,h.ev⟩
theorem avw (h:MI c e) (w u:Int) {b:Int} (hb:0≤b):0≤wi (e.gt (ag9 (aax (aaE c) w u) b))∧wi (e.gt (ag9 (aax (aaE c) w u) b))<c.tasks:=by
 have h1:=h.ok (ag9 (aax (aaE c) w u) b)
 have h2:=h.d.t
 have h3:e.gt (ag9 (aax (aaE c) w u) b)<c.tasks:=by
  rcases aoV h.d w u hb with h4 | h4
  ·exact h1.r h4
  ·have:e.gt (ag9 (aax (aaE c) w u) b)=0:=by
    show e.m.gt _=0
    unfold MemV.gt
    rw [if_neg]
    intro h5
    have h6:ckC c (ag9 (aax (aaE c) w u) b)≠9:=by
     unfold ckC; repeat' split
     all_goals omega
    exact h6 h4
   omega
 have h4:=h1.p
 rw [aaw (aai (by omega))]
 exact ⟨h4,h3⟩
theorem aiu (h:MI c e) (i:Int):ad2 c (e.gt (aeo (aaE c) i)):=by
 have h1:=h.ok (aeo (aaE c) i)
 have h2:=h.d.t
 refine ⟨h1.p,?_⟩
 rcases amu h.d (i:=i) with h4 | h4
 ·exact h1.s h4
 ·have:e.gt (aeo (aaE c) i)=0:=by
   show e.m.gt _=0
   unfold MemV.gt
   rw [if_neg]
   intro h5
   have h6:ckC c (aeo (aaE c) i)≠9:=by
    unfold ckC; repeat' split
    all_goals omega
   exact h6 h4
  rw [this]
  show aoz 0 65535<_
  have:aoz 0 65535=0:=by decide
  omega
theorem awX (h:MI c e) (t:Int):0≤Lv c e t∧Lv c e t<c.levels:=by
 have h1:=h.ok (abX (aaE c) t)
 have h2:=h.d.l
 refine ⟨h1.p,?_⟩
 rcases ag5 h.d (t:=t) with h4 | ⟨_,h4⟩
 ·exact h1.l h4
 ·show e.m.gt (abX (aaE c) t)<_
  rw [h4]
  unfold MemV.gt
  rw [if_neg (by omega)]
  omega
end
def Rs.Q {σ:Type} (P:σ→Prop) (F:Int→Int→Prop):Rs σ→Prop
 | .go s =>P s
 | .fin c v =>F c v
theorem Rs.Q.ite {σ:Type} {P:σ→Prop} {F:Int→Int→Prop} {p:Prop} [Decidable p] {a b:Rs σ} (h1:p→a.Q P F) (h2:¬ p→b.Q P F):(if p then a else b).Q P F:=by
 split
 ·exact h1 ‹_›
 ·exact h2 ‹_›
def TOk (c:Cfg) (t:Int):Prop:=0≤t∧t<c.tasks
def anI:OPushS→Prop
 | .l1 =>True
 | .l2 b =>0≤b
 | .l3 b =>0≤b
 | .l4 b =>0≤b
def aAF:OPopS→Prop
 | .l1 =>True
 | .l2 b =>0≤b
 | .l3 b _ =>0≤b
 | .l4 b _ =>0≤b
 | .l5 b _ =>0≤b
 | .l6 b _ =>0≤b
 | .l7 b _ =>0≤b
 | .l8 b _ =>0≤b
 | .l9 b _ =>0≤b
def avV (c:Cfg):StealS→Prop
 | .l1 =>True
 | .l2 t =>0≤t
 | .l3 t =>0≤t
 | .l4 _ v =>TOk c (wi v)
def ao0 (c:Cfg):InsertS→Prop
 | .l1 =>True
 | .l2 _ =>True
 | .l3 _ _ k x =>ad2 c k∧ad2 c x
 | .l4 _ _ k x =>ad2 c k∧ad2 c x
 | .l5 _ _ k x =>ad2 c k∧ad2 c x
 | .l6 _ _ k x =>ad2 c k∧ad2 c x
def amG (c:Cfg):RemoveS→Prop
 | .l1 =>True
 | .l2 _ =>True
 | .l3 _ x =>ad2 c x
 | .l4 _ x y =>ad2 c x∧ad2 c y
 | .l5 _ _ _ x y z =>ad2 c x∧ad2 c y∧ad2 c z
 | .l6 _ _ _ x y z =>ad2 c x∧ad2 c y∧ad2 c z
 | .l7 _ _ _ x y z =>ad2 c x∧ad2 c y∧ad2 c z
 | .l8 _ _ _ x y z =>ad2 c x∧ad2 c y∧ad2 c z
section
variable {c:Cfg} {e:EnvP} {w v x:Int}
theorem aEx (h:MI c e) (hx:TOk c x) (s:OPushS) (hs:anI s):Qt c e (afc (aax (aaE c) w v) x e s).2∧(afc (aax (aaE c) w v) x e s).1.Q anI (fun _ _ =>True):=by
 have ht:=h.d.t
 cases s with
 | l1 =>exact ⟨.lk h,h.p _⟩
 | l2 b =>exact ⟨.lk h,.ite (fun _ =>trivial) fun _ =>hs⟩
 | l3 b =>exact ⟨.ring h _ _ hs (by rw [ae9 (by unfold TOk at hx; omega)]; exact hx),hs⟩
 | l4 b =>exact ⟨.fr h (amp h.d _ _) (aho _),trivial⟩
theorem aGM (h:MI c e) (s:OPopS) (hs:aAF s):Qt c e (aom (aax (aaE c) w v) e s).2∧(aom (aax (aaE c) w v) e s).1.Q aAF (fun r x =>r=1→TOk c x):=by
 cases s with
 | l1 =>exact ⟨.lk h,h.p _⟩
 | l2 b =>exact ⟨.lk h,.ite (fun _ =>fun h =>absurd h (by omega)) fun _ =>hs⟩
 | l3 b t =>exact ⟨.fr h (amp h.d _ _) (aho _),hs⟩
 | l4 b t =>exact ⟨.lk h,.ite (fun _ =>hs) fun _ =>.ite (fun _ =>hs) fun _ =>hs⟩
 | l5 b t =>exact ⟨.lk h,fun _ =>avw h _ _ (aho _)⟩
 | l6 b t =>exact ⟨.cas h (aDc h.d _ _) (aho _),.ite (fun _ =>hs) fun _ =>hs⟩
 | l7 b t =>exact ⟨.fr h (amp h.d _ _) hs,hs⟩
 | l8 b t =>exact ⟨.lk h,fun _ =>avw h _ _ (aho _)⟩
 | l9 b t =>exact ⟨.fr h (amp h.d _ _) hs,fun h =>absurd h (by omega)⟩
theorem aDI (h:MI c e) (s:StealS) (hs:avV c s):Qt c e (aiS (aax (aaE c) w v) e s).2∧(aiS (aax (aaE c) w v) e s).1.Q (avV c) (fun r x =>r=1→TOk c x):=by
 cases s with
 | l1 =>exact ⟨.lk h,h.p _⟩
 | l2 b =>exact ⟨.lk h,.ite (fun _ =>fun h =>absurd h (by omega)) fun _ =>hs⟩
 | l3 t =>exact ⟨.lk h,avw h _ _ hs⟩
 | l4 t u =>exact ⟨.cas h (aDc h.d _ _) (aho _),.ite (fun _ =>fun _ =>hs) fun _ =>fun h =>absurd h (by omega)⟩
theorem ayy {a b:Int} (h:MI c e) (s:ResetS):Qt c e (agm (aaN (aaE c) a) b (aax (aaE c) w v) e s).2:=by
 cases s with
 | l1 =>exact .fr h (aqc h.d) (anB _ _)
 | l2 =>exact .lk h
 | l3 x =>exact .lk h
 | l4 x =>exact .fr h (aqc h.d) (awG _ _)
theorem aIz {a b:Int} (h:MI c e):Qt c e (aFO (aaN (aaE c) a) b e):=.fr h (aqc h.d) (awG _ _)
theorem alk {t:Int} (h:MI c e) (ht:TOk c t):Qt c e (ah7 w t e):=by
 unfold ah7
 rw [h.l]
 split
 ·split
  ·exact (Qt.cas h (agF h.d) (by omega)).em ht (by omega)
  ·exact (Qt.cas h (agF h.d) (by omega)).pr.em ht (by omega)
 ·exact (Qt.cas h (agF h.d) (by omega)).em ht (by omega)
theorem at6 {o:Int} (h:MI c e):Qt c e (ang o e):=.cas h (aqb h.d (by omega)) (aho _)
theorem azB (h:MI c e):Qt c e (aqa e):=.fr h (aqb h.d (by omega)) (by omega)
theorem atr (h:MI c e):ckC c (ahG w e)=3∨ckC c (ahG w e)=9:=by
 unfold ahG
 rw [h.l]
 split
 ·exact .inr agd
 ·exact aqu h.d
theorem av1 {j:Int} (h:MI c e):ckC c (amJ v j e)=3∨ckC c (amJ v j e)=9:=by
 unfold amJ
 rw [h.l]
 split
 ·exact .inr agd
 ·exact aqu h.d
theorem apn (h:MI c e):Fr c (ahG w e):=aqQ rfl (by have:=atr (w:=w) h; omega)
theorem aAU {j:Int} (h:MI c e):Fr c (amJ v j e):=aqQ rfl (by have:=av1 (v:=v) (j:=j) h; omega)
theorem TOk.zero (h:DecOk c):0≤(0:Int)∧0<c.tasks:=by have:=h.t; omega
theorem aDP (h:MI c e) (s:SleepS):Qt c e (agk w e s).2:=by
 have hz:=TOk.zero h.d
 cases s with
 | l1 =>exact .lk h
 | l2 ep =>exact .fr h (apn h) (awG _ _)
 | l3 ep =>exact .lk h
 | l4 ep v =>
  simp only [agk]
  split
  ·exact .lk h
  ·split
   ·exact (Qt.lk h).em hz (by omega)
   ·exact .lk h
 | l5 ep v s =>
  simp only [agk]
  split
  ·exact (Qt.lk h).em hz (by omega)
  ·split
   ·exact (Qt.lk h).em hz (by omega)
   ·exact .lk h
 | l6 _ _ _ =>exact .fr h (apn h) (anB _ _)
 | l7 _ _ _ =>exact .fr h (apn h) (anB _ _)
theorem ath (h:MI c e) (s:WakeS):Qt c e (aev w v e s).2:=by
 have hz:=TOk.zero h.d
 cases s with
 | l1 j =>exact .lk h
 | l2 j x =>exact .fr h (aAU h) (anB _ _)
 | l3 j x =>
  show Qt c e ((e.pt 6 (ago e.l x) _).em 18 w 0 x 0)
  rw [h.l]
  exact (Qt.fr h (aB9 h.d) (aho _)).em hz (by omega)
theorem aEm (h:MI c e) (s:ProbeS):Qt c e (akP w e s).2:=by
 have g:∀ s i bm,Qt c e (aiW w e s i bm).2:=fun s i bm =>by
  unfold aiW
  split
  ·exact .refl h
  ·simp only
   split
   ·exact .lk h
   ·exact .lk h
 cases s with
 | new =>exact g _ _ _
 | run s i bm =>exact g _ _ _
end
theorem al5 (a:Int):(BitVec.ofInt 64 a).toNat=(a % 18446744073709551616).toNat:=by
 rw [BitVec.toNat_ofInt]; rfl
theorem av0 {n:Nat} (h:n<18446744073709551616):IntKind.u64.wrap (n:Int)=(n:Int):=by
 rw [atd]; omega
theorem avn (a b:Int):orU a b=(((a % 18446744073709551616).toNat ||| (b % 18446744073709551616).toNat:Nat):Int):=by
 show IntKind.u64.wrap ((BitVec.ofInt 64 a ||| BitVec.ofInt 64 b).toNat:Int)=_
 rw [BitVec.toNat_or,al5,al5,av0]
 exact Nat.or_lt_two_pow (n:=64) (by omega) (by omega)
theorem aoY (a:Int):aoz a 65535=(((a % 18446744073709551616).toNat % 65536:Nat):Int):=by
 show IntKind.u64.wrap ((BitVec.ofInt 64 a &&& BitVec.ofInt 64 65535).toNat:Int)=_
 have e:((65535:Int) % 18446744073709551616).toNat=2 ^ 16-1:=by decide
 rw [BitVec.toNat_and,al5,al5,e,Nat.and_two_pow_sub_one_eq_mod,av0 (by omega)]
theorem ayY (a b:Int):(orU a b).toNat % 65536=((a % 18446744073709551616).toNat % 65536) ||| ((b % 18446744073709551616).toNat % 65536):=by
 rw [avn,Int.toNat_natCast]
 exact Nat.or_mod_two_pow (n:=16)
theorem ayX (a b:Int):orU a b % 18446744073709551616=orU a b:=by
 have h:(a % 18446744073709551616).toNat ||| (b % 18446744073709551616).toNat<2 ^ 64:=Nat.or_lt_two_pow (by omega) (by omega)
 rw [avn]
 omega
theorem aBx {d a t:Int} (ht:0≤t∧t≤65535):aoz (alU d a t).1 65535=t∨(alU d a t).1=0:=by
 unfold alU
 by_cases h1:d<0
 ·rw [if_pos h1]; exact .inr rfl
 rw [if_neg h1]
 by_cases h2:16777215<d
 ·rw [if_pos h2]; exact .inr rfl
 rw [if_neg h2]
 by_cases h3:a<0
 ·rw [if_pos h3]; exact .inr rfl
 rw [if_neg h3]
 by_cases h4:16777215<a
 ·rw [if_pos h4]; exact .inr rfl
 rw [if_neg h4,if_neg (by omega),if_neg (by omega)]
 refine .inl ?_
 simp only
 rw [aoY,ayX,ayY,ayX,ayY]
 have p40:(2:Int) ^ min (40:Int).toNat IntKind.u64.bits=1099511627776:=by decide
 have p16:(2:Int) ^ min (16:Int).toNat IntKind.u64.bits=65536:=by decide
 rw [p40,p16,ae9 (x:=d) (by omega),ae9 (x:=a) (by omega),ae9 (x:=t) (by omega)]
 have e1:((wu (d*1099511627776)) % 18446744073709551616).toNat % 65536=0:=by
  have:wu (d*1099511627776)=d*1099511627776 % 18446744073709551616:=atd _
  rw [this]; omega
 have e2:((wu (a*65536)) % 18446744073709551616).toNat % 65536=0:=by
  have:wu (a*65536)=a*65536 % 18446744073709551616:=atd _
  rw [this]; omega
 rw [e1,e2]
 simp
 omega
theorem aEp {c:Cfg} (hd:DecOk c) {d a t:Int} (ht:TOk c t):ad2 c (alU d a t).1:=by
 have h:=hd.t
 have h2:0≤(alU d a t).1:=by
  unfold alU
  repeat' split
  all_goals first | exact Int.le_refl 0 | exact awG _ _
 refine ⟨h2,?_⟩
 rcases aBx (d:=d) (a:=a) (t:=t) (by unfold TOk at ht; omega) with e | e
 ·rw [e]; exact ht.2
 ·rw [e,aoY]; simp; omega
theorem ash {c:Cfg} (hd:DecOk c) {k:Int} (hk:ad2 c k):TOk c (apX k):=by
 have h:=hd.t
 have e:apX k=aoz k 65535:=by
  show wi (aoz k 65535)=_
  have h1:=anB k 65535
  have h2:=hk.2
  exact aaw (aai (by omega))
 unfold TOk
 rw [e]
 exact ⟨anB _ _,hk.2⟩
theorem asg {c:Cfg} (hd:DecOk c):ad2 c 0:=by
 have h:=hd.t
 refine ⟨Int.le_refl 0,?_⟩
 rw [aoY]; simp; omega
section
variable {c:Cfg} {e:EnvP} {w x:Int}
theorem aws {n i k x:Int} (h1:ad2 c k) (h2:ad2 c x):ao0 c (apz n i k x):=by
 unfold apz
 split
 ·exact ⟨h1,h2⟩
 ·exact ⟨h1,h2⟩
theorem awS {d t:Int} (h:MI c e) (ht:TOk c t) (s:InsertS) (hs:ao0 c s):Qt c e (abq d t e s).2∧(abq d t e s).1.Q (ao0 c) (fun _ _ =>True):=by
 cases s with
 | l1 =>exact ⟨.lk h,.ite (fun _ =>trivial) fun _ =>trivial⟩
 | l2 n =>exact ⟨.fr h (aqb h.d (by omega)) (aho _),.ite (fun _ =>aws (aEp h.d ht) (asg h.d)) fun _ =>trivial⟩
 | l3 n i k x =>
  unfold abq
  rw [h.l]
  exact ⟨.lk h,.ite (fun _ =>⟨hs.1,aiu h _⟩) fun _ =>⟨hs.1,aiu h _⟩⟩
 | l4 n i k x =>
  unfold abq
  rw [h.l]
  exact ⟨.slot h hs.2,aws hs.1 hs.2⟩
 | l5 n i k x =>
  unfold abq
  rw [h.l]
  exact ⟨.slot h hs.1,hs⟩
 | l6 n i k x =>exact ⟨.fr h (aqb h.d (by omega)) (aho _),trivial⟩
theorem axd {n i d x y z:Int} (h1:ad2 c x) (h2:ad2 c y) (h3:ad2 c z):amG c (aqr n i d x y z):=by
 unfold aqr
 split
 ·exact ⟨h1,h2,h3⟩
 ·exact ⟨h1,h2,h3⟩
theorem avE {n i d x y z:Int} (h1:ad2 c x) (h2:ad2 c y) (h3:ad2 c z):amG c (auq n i d x y z):=by
 unfold auq
 split
 ·exact ⟨h1,h2,h3⟩
 ·exact ⟨h1,h2,h3⟩
theorem aBo (h:MI c e) (s:RemoveS) (hs:amG c s):Qt c e (aby w e s).2∧(aby w e s).1.Q (amG c) (fun r x =>r≠2→TOk c x):=by
 cases s with
 | l1 =>exact ⟨.lk h,.ite (fun _ =>fun h =>absurd rfl h) fun _ =>trivial⟩
 | l2 n =>
  unfold aby
  rw [h.l]
  exact ⟨.lk h,aiu h _⟩
 | l3 n x =>
  unfold aby
  rw [h.l]
  exact ⟨.lk h,hs,aiu h _⟩
 | l4 n x y =>exact ⟨(Qt.fr h (aqb h.d (by omega)) (aho _)).em (ash h.d hs.1) (by omega),.ite (fun _ =>fun _ =>ash h.d hs.1) fun _ =>axd hs.1 hs.2 (asg h.d)⟩
 | l5 n i d x y z =>
  unfold aby
  rw [h.l]
  exact ⟨.lk h,.ite (fun _ =>⟨hs.1,hs.2.1,aiu h _⟩) fun _ =>avE hs.1 hs.2.1 (aiu h _)⟩
 | l6 n i d x y z =>
  unfold aby
  rw [h.l]
  exact ⟨.lk h,.ite (fun _ =>avE hs.1 hs.2.1 (aiu h _)) fun _ =>avE hs.1 hs.2.1 hs.2.2⟩
 | l7 n i d x y z =>
  unfold aby
  rw [h.l]
  exact ⟨.slot h hs.2.2,axd hs.1 hs.2.1 hs.2.2⟩
 | l8 n i d x y z =>
  unfold aby
  rw [h.l]
  exact ⟨.slot h hs.2.1,fun _ =>ash h.d hs.1⟩
end
end
section
open Go Go.RowKit
set_option maxRecDepth 100000
structure QK where
 d:Int
 a:Int
 t:Int
def pkV (q:QK):Int:=q.d*1099511627776+q.a*65536+q.t
def aqD (v:Int):List QK→Int
 | [] =>0
 | q::l =>aqD v l+if pkV q=v then 1 else 0
def aue (k:QK):List QK→List QK
 | [] =>[k]
 | x::l =>if x.d≤k.d then x::aue k l else k::x::l
theorem aix {k:QK}:∀ {l:List QK},(aue k l).length=l.length+1
 | [] =>rfl
 | x::l =>by
  unfold aue
  split
  ·rw [List.length_cons,aix,List.length_cons]
  ·rfl
theorem awU {k y:QK}:∀ {l:List QK},y∈aue k l→y=k∨y∈l
 | [],h =>.inl (List.mem_singleton.1 h)
 | x::l,h =>by
  unfold aue at h
  split at h
  ·rcases List.mem_cons.1 h with h | h
   ·exact .inr (h▸List.mem_cons_self)
   ·exact (awU h).imp id (List.mem_cons_of_mem _)
  ·rcases List.mem_cons.1 h with h | h
   ·exact .inl h
   ·exact .inr h
theorem awV {k:QK} {v:Int}:∀ {l:List QK},aqD v (aue k l)=aqD v l+if pkV k=v then 1 else 0
 | [] =>rfl
 | x::l =>by
  unfold aue
  split
  ·show aqD v (aue k l)+_=aqD v l+_+_
   rw [awV]; omega
  ·rfl
theorem aqj {v:Int}:∀ {l:List QK},0≤aqD v l
 | [] =>Int.le_refl 0
 | x::l =>by
  have:=aqj (v:=v) (l:=l)
  unfold aqD
  split<;>omega
theorem asK {q:QK}:∀ {l:List QK},q∈l→0<aqD (pkV q) l
 | x::l,h =>by
  have h0:=aqj (v:=pkV q) (l:=l)
  unfold aqD
  rcases List.mem_cons.1 h with h | h
  ·rw [if_pos (by rw [h])]; omega
  ·have:=asK h
   split<;>omega
theorem aw9 {v:Int}:∀ {l:List QK},0<aqD v l→∃ q,q∈l∧pkV q=v
 | [],h =>by unfold aqD at h; omega
 | x::l,h =>by
  unfold aqD at h
  by_cases e:pkV x=v
  ·exact ⟨x,List.mem_cons_self,e⟩
  ·rw [if_neg e] at h
   obtain ⟨q,h1,h2⟩:=aw9 (v:=v) (l:=l) (by omega)
   exact ⟨q,List.mem_cons_of_mem _ h1,h2⟩
structure SQ (l:List QK) (n:Int):Prop where
 b:n≤1000001
 r:∀ x∈l,(0≤x.d∧x.d≤1000)∧(0≤x.a∧x.a<n)∧0≤x.t∧x.t≤65535
 s:l.Pairwise fun x y =>x.d<y.d∨x.d=y.d∧x.a<y.a
theorem SQ.nil:SQ [] 0:=⟨by decide,fun x hx =>(by cases hx),List.Pairwise.nil⟩
theorem SQ.tail {x:QK} {l:List QK} {n:Int} (h:SQ (x::l) n):SQ l n:=⟨h.b,fun y hy =>h.r y (List.mem_cons_of_mem _ hy),(List.pairwise_cons.1 h.s).2⟩
theorem SQ.lt {x y:QK} {l:List QK} {n:Int} (h:SQ (x::l) n) (hy:y∈l):pkV x<pkV y:=by
 have h1:=h.r x List.mem_cons_self
 have h2:=h.r y (List.mem_cons_of_mem _ hy)
 have h3:=(List.pairwise_cons.1 h.s).1 y hy
 have hb:=h.b
 unfold pkV
 omega
theorem SQ.ins {k:QK} {n:Int} (hn:n≤1000000) (hk:(0≤k.d∧k.d≤1000)∧k.a=n∧0≤k.t∧k.t≤65535) (h0:0≤n):∀ {l:List QK},SQ l n→SQ (aue k l) (n+1)
 | [],_ =>⟨by omega,fun x hx =>by rw [List.mem_singleton.1 hx]; omega,List.pairwise_singleton _ _⟩
 | x::l,h =>by
  have hx:=h.r x List.mem_cons_self
  have hs:=List.pairwise_cons.1 h.s
  have ih:=SQ.ins hn hk h0 h.tail
  unfold aue
  by_cases e:x.d≤k.d
  ·rw [if_pos e]
   refine ⟨by omega,fun y hy =>?_,List.pairwise_cons.2 ⟨fun y hy =>?_,ih.s⟩⟩
   ·rcases List.mem_cons.1 hy with hy | hy
    ·rw [hy]; omega
    ·exact ih.r y hy
   ·rcases awU hy with hy | hy
    ·rw [hy]; omega
    ·exact hs.1 y hy
  ·rw [if_neg e]
   refine ⟨by omega,fun y hy =>?_,List.pairwise_cons.2 ⟨fun y hy =>?_,h.s⟩⟩
   ·rcases List.mem_cons.1 hy with hy | hy
    ·rw [hy]; omega
    ·have:=h.r y hy; omega
   ·rcases List.mem_cons.1 hy with hy | hy
    ·rw [hy]; omega
    ·have:=hs.1 y hy; omega
def ahS (c:Cfg) (s:List QK×Int) (e:Ev):Option (List QK×Int) :=
 if e.kind=1 then (if (0≤e.other∧e.other<(c.subs.length:Int))∧(s.1.length:Int)<c.heap∧0≤e.task∧e.task≤65535 then some (aue ⟨(abf c.subs e.other).deadline,s.2,e.task⟩ s.1,s.2+1) else none)
 else if e.kind=13 then (match s.1 with
  | [] =>none
  | k::l =>if k.t=e.task then some (l,s.2) else none)
 else if e.kind=2 then (if e.level≠1∨(s.1.length:Int)=c.heap then some s else none)
 else some s
def akO (c:Cfg) (s:List QK×Int):List Ev→Option (List QK×Int)
 | [] =>some s
 | e::l =>(ahS c s e).bind fun s =>akO c s l
theorem aij {c:Cfg}:∀ {l m:List Ev} {s:List QK×Int},akO c s (l++m)=(akO c s l).bind fun s =>akO c s m
 | [],m,s =>rfl
 | e::l,m,s =>by
  show (ahS c s e).bind (fun s =>akO c s (l++m))=((ahS c s e).bind fun s =>akO c s l).bind _
  cases ahS c s e with
  | none =>rfl
  | some s' =>exact aij
theorem aoI {c:Cfg} {s:List QK×Int} {e:Ev}:akO c s [e]=ahS c s e:=by
 show (ahS c s e).bind (fun s =>some s)=_
 cases ahS c s e<;>rfl
theorem ayC {c:Cfg} {s:List QK×Int}:∀ {l:List Ev},(∀ x∈l,3≤x.kind∧x.kind≠13)→akO c s l=some s
 | [],_ =>rfl
 | e::l,h =>by
  have h1:=h e List.mem_cons_self
  show (ahS c s e).bind _=_
  have:ahS c s e=some s:=by
   unfold ahS
   rw [if_neg (by omega),if_neg (by omega),if_neg (by omega)]
  rw [this]
  exact ayC fun x hx =>h x (List.mem_cons_of_mem _ hx)
theorem aBq {c:Cfg} (hd:∀ i,0≤i→i<(c.subs.length:Int)→0≤(abf c.subs i).deadline∧(abf c.subs i).deadline≤1000) {s s':List QK×Int} {e:Ev} (h:SQ s.1 s.2) (h0:0≤s.2∧s.2≤1000000) (hh:(s.1.length:Int)≤c.heap) (hs:ahS c s e=some s'):SQ s'.1 s'.2∧(s.2≤s'.2∧s'.2≤s.2+1)∧(s'.1.length:Int)≤c.heap:=by
 unfold ahS at hs
 split at hs
 ·split at hs
  ·rename_i hg
   obtain rfl:=Option.some.inj hs
   refine ⟨h.ins (k:=⟨(abf c.subs e.other).deadline,s.2,e.task⟩) h0.2 ⟨hd _ hg.1.1 hg.1.2,rfl,hg.2.2⟩ h0.1,⟨by show s.2≤s.2+1; omega,Int.le_refl _⟩,?_⟩
   show ((aue _ s.1).length:Int)≤_
   rw [aix]; omega
  ·cases hs
 ·split at hs
  ·obtain ⟨q,a⟩:=s
   cases q with
   | nil =>cases hs
   | cons k l =>
    simp only at hs
    split at hs
    ·obtain rfl:=Option.some.inj hs
     have h:SQ (k::l) a:=h
     have hh:((k::l).length:Int)≤c.heap:=hh
     rw [List.length_cons] at hh
     exact ⟨h.tail,⟨Int.le_refl _,by show a≤a+1; omega⟩,by show (l.length:Int)≤_; omega⟩
    ·cases hs
  ·split at hs
   ·split at hs
    ·obtain rfl:=Option.some.inj hs; exact ⟨h,⟨Int.le_refl _,by omega⟩,hh⟩
    ·cases hs
   ·obtain rfl:=Option.some.inj hs; exact ⟨h,⟨Int.le_refl _,by omega⟩,hh⟩
section
variable [Tb]
theorem ayZ {x y:Nat} {k:Nat} (h:y<2 ^ k) (hx:2 ^ k*x<18446744073709551616) (hy:y<18446744073709551616):orU ((2 ^ k*x:Nat):Int) (y:Int)=((2 ^ k*x+y:Nat):Int):=by
 rw [avn,Nat.two_pow_add_eq_or_of_lt h]
 have e1:(((2 ^ k*x:Nat):Int) % 18446744073709551616).toNat=2 ^ k*x:=by omega
 have e2:((y:Int) % 18446744073709551616).toNat=y:=by omega
 rw [e1,e2]
theorem aBw {q:QK} (h:(0≤q.d∧q.d≤1000)∧(0≤q.a∧q.a≤1000000)∧0≤q.t∧q.t≤65535):alU q.d q.a q.t=(pkV q,true):=by
 obtain ⟨d,a,t⟩:=q
 simp only at h
 obtain ⟨D,rfl⟩:=Int.eq_ofNat_of_zero_le h.1.1
 obtain ⟨A,rfl⟩:=Int.eq_ofNat_of_zero_le h.2.1.1
 obtain ⟨T,rfl⟩:=Int.eq_ofNat_of_zero_le h.2.2.1
 have p40:(2:Int) ^ min (40:Int).toNat IntKind.u64.bits=1099511627776:=by decide
 have p16:(2:Int) ^ min (16:Int).toNat IntKind.u64.bits=65536:=by decide
 unfold alU pkV
 simp only
 rw [if_neg (by omega),if_neg (by omega),if_neg (by omega),if_neg (by omega),if_neg (by omega),if_neg (by omega)]
 rw [p40,p16,ae9 (x:=(D:Int)) (by omega),ae9 (x:=(A:Int)) (by omega),ae9 (x:=(T:Int)) (by omega)]
 have w1:wu ((D:Int)*1099511627776)=(D:Int)*1099511627776:=by
  have:wu ((D:Int)*1099511627776)=(D:Int)*1099511627776 % 18446744073709551616:=atd _
  rw [this]; omega
 have w2:wu ((A:Int)*65536)=(A:Int)*65536:=by
  have:wu ((A:Int)*65536)=(A:Int)*65536 % 18446744073709551616:=atd _
  rw [this]; omega
 rw [w1,w2]
 have e1:(D:Int)*1099511627776=((2 ^ 40*D:Nat):Int):=by omega
 have e2:(A:Int)*65536=((65536*A:Nat):Int):=by omega
 rw [e1,e2,ayZ (k:=40) (x:=D) (y:=65536*A) (by omega) (by omega) (by omega)]
 have e3:((2 ^ 40*D+65536*A:Nat):Int)=((2 ^ 16*(16777216*D+A):Nat):Int):=by omega
 rw [e3,ayZ (k:=16) (x:=16777216*D+A) (y:=T) (by omega) (by omega) (by omega)]
 refine Prod.ext ?_ rfl
 show ((2 ^ 16*(16777216*D+A)+T:Nat):Int)=_
 omega
theorem aEo {q:QK} (h:(0≤q.d∧q.d≤1000)∧(0≤q.a∧q.a≤1000000)∧0≤q.t∧q.t≤65535):apX (pkV q)=q.t:=by
 show wi (aoz (pkV q) 65535)=_
 rw [aoY]
 have:(((pkV q % 18446744073709551616).toNat % 65536:Nat):Int)=q.t:=by unfold pkV; omega
 rw [this]
 exact aaw (aai (by omega))
end
end
section
open Go Go.RowKit
set_option maxRecDepth 1000000
variable [Tb]
theorem lpS {σ β:Type} (F:(σ→Option β)→σ→Option β) (k:Nat) (x:σ):lpF F (k+1) x=F (lpF F k) x:=rfl
def leK (a b:KyV):Prop:=a.deadline<b.deadline∨a.deadline=b.deadline∧a.arrival<b.arrival
section
variable {a b d:Int}
theorem aC3:amt a=some ((false,()),()):=by
 unfold amt
 rw [decide_eq_false (fun h =>h rfl)]
def aJs (a b:Int):Int:=if a<b then -1 else if b<a then 1 else 0
theorem aFC:agK a b=some ((aJs a b,()),()):=by
 unfold agK aJs
 rw [aC3,aC3,adi,adi,if_neg (by decide),if_neg (by decide)]
 split
 ·rfl
 ·split<;>rfl
theorem aCA:aCB [a,b,d]=some ((if a≠0 then a else if b≠0 then b else d,()),()):=by
 unfold aCB
 generalize hF:(fun (self3:Int×Unit→Option ((Int×Unit)⊕((Int×Unit)×Unit))) (x1:Int×Unit) =>_)=F
 have s3:∀ k,lpF F (k+1) (3,())=some (.inl (3,())):=fun k =>by rw [lpS]; subst hF; rfl
 have s2:∀ k,lpF F (k+2) (2,())=if d≠0 then some (.inr ((d,()),())) else some (.inl (3,())):=fun k =>by
  have h:=s3 k
  rw [lpS]
  generalize lpF F (k+1)=self at *
  subst hF
  show (if d≠0 then _ else self (wi (2+1),()))=_
  rw [show wi (2+1)=3 from rfl,h]; rfl
 have s1:∀ k,lpF F (k+3) (1,())=if b≠0 then some (.inr ((b,()),())) else if d≠0 then some (.inr ((d,()),())) else some (.inl (3,())):=fun k =>by
  have h:=s2 k
  rw [lpS]
  generalize lpF F (k+2)=self at *
  subst hF
  show (if b≠0 then _ else self (wi (1+1),()))=_
  rw [show wi (1+1)=2 from rfl,h]; rfl
 have s0:∀ k,lpF F (k+4) (0,())=if a≠0 then some (.inr ((a,()),())) else if b≠0 then some (.inr ((b,()),())) else if d≠0 then some (.inr ((d,()),())) else some (.inl (3,())):=fun k =>by
  have h:=s1 k
  rw [lpS]
  generalize lpF F (k+3)=self at *
  subst hF
  show (if a≠0 then _ else self (wi (0+1),()))=_
  rw [show wi (0+1)=1 from rfl,h]; rfl
 have s:=s0 18446744073709551612
 have s:lpF F 18446744073709551616 (0,())=_:=s
 rw [s]
 by_cases h1:a≠0
 ·rw [if_pos h1,if_pos h1]; rfl
 ·rw [if_neg h1,if_neg h1]
  by_cases h2:b≠0
  ·rw [if_pos h2,if_pos h2]; rfl
  ·rw [if_neg h2,if_neg h2]
   by_cases h3:d≠0
   ·rw [if_pos h3]; rfl
   ·rw [if_neg h3]
    have:d=0:=by omega
    rw [this]; rfl
theorem aJR {x y:KyV} (h:x.arrival<y.arrival):∃ v,ad7 x y=some ((v,()),())∧(v<0↔x.deadline≤y.deadline):=by
 unfold ad7
 simp only [aFC,adi,if_true,aCA]
 refine ⟨_,rfl,?_⟩
 unfold aJs
 repeat' split
 all_goals omega
end
theorem aJP {lo hi:Int} (h0:0≤lo) (h1:lo≤hi) (h2:hi≤1000000):wi (Int.fdiv (wu (wi (lo+hi))) (2 ^ min (1:Int).toNat IntKind.u64.bits))=(lo+hi) / 2:=by
 have e2:wi (lo+hi)=lo+hi:=aaw (aai (by omega))
 have e3:wu (lo+hi)=lo+hi:=aJJ (by omega) (by omega)
 have e4:((2:Int) ^ min (1:Int).toNat IntKind.u64.bits)=2:=rfl
 rw [e2,e3,e4,Int.fdiv_eq_ediv_of_nonneg _ (by decide)]
 exact aaw (aai (by omega))
section
variable {q:CtP} {c:Cfg} {w t o l:Int}
theorem qP2:aaH q c ⟨2,w,t,o,l⟩=if l≠1 then some ((true,()),(q,())) else some ((decide ((q.keys.length:Int)=c.heap),()),(q,())):=by
 unfold aaH
 rw [if_neg (show ¬ (2:Int)=1 by decide),if_neg (show ¬ (2:Int)=13 by decide),if_pos rfl]
theorem aJK:aaH q c ⟨13,w,t,o,l⟩=if 0<q.keys.length∧(agf q.keys 0).task=t then some ((true,()),(⟨q.keys.drop 1,q.count⟩,())) else some ((false,()),(q,())):=by
 unfold aaH
 rw [if_neg (show ¬ (13:Int)=1 by decide),if_pos rfl]
 by_cases h:(q.keys.length:Int)=0
 ·rw [if_pos h,adi,if_pos rfl,if_neg (by omega)]
 ·rw [if_neg h,if_pos (by omega),adi]
  by_cases h2:(agf q.keys 0).task=t
  ·rw [if_neg (by simp [h2]),if_pos ⟨by decide,by show (1:Int)≤(q.keys.length:Int); omega⟩,if_pos ⟨by omega,h2⟩]; rfl
  ·rw [if_pos (by simp [h2]),if_neg (fun h =>h2 h.2)]
structure Srt (ks:List KyV) (n:Int):Prop where
 s:∀ i j:Nat,i<j→j<ks.length→leK (agf ks (i:Int)) (agf ks (j:Int))
 a:∀ i:Nat,i<ks.length→(agf ks (i:Int)).arrival<n
theorem qP1 (ho:0≤o∧o<(c.subs.length:Int)) (hs:Srt q.keys q.count) (hl:q.keys.length≤1000000) :
    (c.heap≤(q.keys.length:Int)→aaH q c ⟨1,w,t,o,l⟩=some ((false,()),(q,()))) ∧
    ((q.keys.length:Int)<c.heap→∃ i:Nat,i≤q.keys.length∧(∀ j:Nat,j<i→(agf q.keys (j:Int)).deadline≤(abf c.subs o).deadline)∧(∀ j:Nat,i≤j→j<q.keys.length→(abf c.subs o).deadline<(agf q.keys (j:Int)).deadline) ∧
      aaH q c ⟨1,w,t,o,l⟩=some ((true,()),(⟨q.keys.take i++[⟨(abf c.subs o).deadline,q.count,t⟩]++q.keys.drop i,wi (q.count+1)⟩,()))):=by
  have e0:∀ b,decide (c.heap≤(q.keys.length:Int))=b→(if (⟨1,w,t,o,l⟩:Ev).other<0 then some (true,q,()) else if ((c.subs.length:Nat):Int)≤(⟨1,w,t,o,l⟩:Ev).other then some (true,q,()) else some (decide (c.heap≤((q.keys.length:Nat):Int)),q,()))=some (b,q,()):=fun b hb =>by
    rw [if_neg (by show ¬ o<0; omega),if_neg (by show ¬ (c.subs.length:Int)≤o; omega),hb]
  refine ⟨fun h =>?_,fun h =>?_⟩
  · unfold aaH
    rw [if_pos rfl,e0 true (decide_eq_true h),adi,if_pos rfl]
  · unfold aaH
    rw [if_pos rfl,e0 false (decide_eq_false (by omega)),adi,if_neg (show ¬ false=true by decide)]
    dsimp only
    rw [if_pos ho,if_pos rfl,if_pos rfl,if_pos rfl,if_pos rfl]
    generalize hd:(abf c.subs o).deadline=D
    have hk:∀ j:Nat,j<q.keys.length→∃ v,ad7 (agf q.keys (j:Int)) ⟨D,q.count,t⟩=some ((v,()),())∧(v<0↔(agf q.keys (j:Int)).deadline≤D):=fun j hj =>aJR (hs.a j hj)
    have hg:aaP (lpF (σ:=Int×Int×Unit) (β:=Int×Int×Unit) (fun self4 x2 =>
         if x2.1<x2.2.1 then
          if 0≤wi (Int.fdiv (wu (wi (x2.1+x2.2.1))) (2 ^ min (1:Int).toNat IntKind.u64.bits))∧wi (Int.fdiv (wu (wi (x2.1+x2.2.1))) (2 ^ min (1:Int).toNat IntKind.u64.bits))<((q.keys.length:Nat):Int) then
           (ad7 (agf q.keys (wi (Int.fdiv (wu (wi (x2.1+x2.2.1))) (2 ^ min (1:Int).toNat IntKind.u64.bits)))) (⟨D,q.count,t⟩:KyV)).bind fun r5 =>
           if r5.1.1<0 then
            self4 (wi ((wi (Int.fdiv (wu (wi (x2.1+x2.2.1))) (2 ^ min (1:Int).toNat IntKind.u64.bits)))+1),x2.2.1,())
           else
           self4 (x2.1,wi (Int.fdiv (wu (wi (x2.1+x2.2.1))) (2 ^ min (1:Int).toNat IntKind.u64.bits)),())
          else none
         else
         some (x2.1,x2.2.1,())
        ) 18446744073709551616 (0,((q.keys.length:Nat):Int),())) fun z =>∃ i:Nat,z.1=(i:Int)∧i≤q.keys.length∧(∀ j:Nat,j<i→(agf q.keys (j:Int)).deadline≤D)∧(∀ j:Nat,i≤j→j<q.keys.length→D<(agf q.keys (j:Int)).deadline):=by
      refine acx (fun x =>∃ i k:Nat,x.1=(i:Int)∧x.2.1=(k:Int)∧i≤k∧k≤q.keys.length∧(∀ j:Nat,j<i→(agf q.keys (j:Int)).deadline≤D)∧(∀ j:Nat,k≤j→j<q.keys.length→D<(agf q.keys (j:Int)).deadline)) (fun x =>(x.2.1-x.1).toNat) (fun self x ⟨i,k,q1,q2,q3,q4,q5,q6⟩ ih =>?_) _ _ ⟨0,q.keys.length,rfl,rfl,Nat.zero_le _,Nat.le_refl _,fun j hj =>absurd hj (Nat.not_lt_zero _),fun j h1 h2 =>by omega⟩ (by show ((q.keys.length:Int)-0).toNat<_; omega)
      obtain ⟨x1,x2,u⟩:=x
      obtain rfl:x1=(i:Int):=q1
      obtain rfl:x2=(k:Int):=q2
      refine aaP.ite (fun h1 =>?_) fun h1 =>.some_ ⟨i,rfl,by omega,q5,fun j h2 h3 =>q6 j (by have h1:¬ (i:Int)<(k:Int):=h1; omega) h3⟩
      have h1:(i:Int)<(k:Int):=h1
      dsimp only
      rw [aJP (lo:=(i:Int)) (hi:=(k:Int)) (by omega) (by omega) (by omega)]
      obtain ⟨m,hm⟩:∃ m:Nat,((i:Int)+(k:Int)) / 2=(m:Int):=⟨(((i:Int)+(k:Int)) / 2).toNat,by omega⟩
      rw [hm]
      have m1:i≤m∧m<k:=by omega
      refine aaP.guard (by omega) fun _ =>?_
      obtain ⟨v,v1,v2⟩:=hk m (by omega)
      rw [v1,adi]
      have e1:wi ((m:Int)+1)=((m+1:Nat):Int):=aaw (aai (by omega))
      refine aaP.ite (fun h2 =>?_) fun h2 =>?_
      · rw [e1]
        refine ih _ ⟨m+1,k,rfl,rfl,by omega,q4,fun j hj =>?_,q6⟩ (by show ((k:Int)-((m+1:Nat):Int)).toNat<((k:Int)-(i:Int)).toNat; omega)
        have h3:=v2.1 h2
        rcases Nat.lt_or_ge j m with h4 | h4
        · have:=hs.s j m h4 (by omega)
          unfold leK at this; omega
        · obtain rfl:j=m:=by omega
          exact h3
      · refine ih _ ⟨i,m,rfl,rfl,m1.1,by omega,q5,fun j h3 h4 =>?_⟩ (by show ((m:Int)-(i:Int)).toNat<((k:Int)-(i:Int)).toNat; omega)
        have h5:D<(agf q.keys (m:Int)).deadline:=by
          have:¬ (agf q.keys (m:Int)).deadline≤D:=fun h =>h2 (v2.2 h)
          omega
        rcases Nat.lt_or_ge m j with h6 | h6
        · have:=hs.s m j h6 h4
          unfold leK at this; omega
        · obtain rfl:j=m:=by omega
          exact h5
    obtain ⟨⟨z1,z2,u⟩,hz,i,rfl,i1,i2,i3⟩:=hg
    refine ⟨i,i1,i2,i3,?_⟩
    rw [hz,adi]
    have e2:ajH q.keys (i:Int) [⟨D,q.count,t⟩]=some ((q.keys.take i++[⟨D,q.count,t⟩]++q.keys.drop i,()),()):=if_pos ⟨⟨by omega,hl⟩,rfl⟩
    by_cases h4:(i:Int)<(q.keys.length:Int)
    · obtain ⟨v,v1,_⟩:=hk i (by omega)
      rw [if_pos h4,if_pos ⟨by omega,h4⟩,v1,adi,adi]
      rw [e2,adi]
    · rw [if_neg h4,adi,e2,adi]
end
def toQ (k:KyV):QK:=⟨k.deadline,k.arrival,k.task⟩
theorem akr {ks:List KyV} {j:Nat} (h:j<ks.length):agf ks (j:Int)=ks[j]:=by
 show (ks[(j:Int).toNat]?).getD _=_
 rw [Int.toNat_natCast,List.getElem?_eq_getElem h]; rfl
theorem awT {k:KyV}:∀ {ks:List KyV} {i:Nat},i≤ks.length→(∀ j (h:j<ks.length),j<i→ks[j].deadline≤k.deadline)→(∀ j (h:j<ks.length),i≤j→k.deadline<ks[j].deadline)→(ks.take i++[k]++ks.drop i).map toQ=aue (toQ k) (ks.map toQ)
 | [],i,h,_,_ =>by
  obtain rfl:i=0:=by simpa using h
  rfl
 | x::ks,i,h,h1,h2 =>by
  show _=if (toQ x).d≤(toQ k).d then _ else _
  by_cases e:x.deadline≤k.deadline
  ·cases i with
   | zero =>exact absurd (h2 0 (by simp) (Nat.le_refl _)) (by show ¬ k.deadline<x.deadline; omega)
   | succ i =>
    rw [if_pos (show (toQ x).d≤(toQ k).d from e)]
    have:=awT (k:=k) (ks:=ks) (i:=i) (by simpa using h) (fun j hj hi =>h1 (j+1) (by simp; omega) (by omega)) (fun j hj hi =>h2 (j+1) (by simp; omega) (by omega))
    rw [← this]
    rfl
  ·rw [if_neg (show ¬ (toQ x).d≤(toQ k).d from e)]
   cases i with
   | zero =>rfl
   | succ i =>exact absurd (h1 0 (by simp) (by omega)) (by show ¬ x.deadline≤k.deadline; omega)
theorem aGl {q:List KyV} {n:Int} (h:SQ (q.map toQ) n):Srt q n:=by
 refine ⟨fun i j hij hj =>?_,fun i hi =>?_⟩
 ·have hi:i<q.length:=by omega
  rw [akr hi,akr hj]
  have hs:=List.pairwise_iff_getElem.1 h.s i j (by simpa using hi) (by simpa using hj) hij
  rw [List.getElem_map,List.getElem_map] at hs
  exact hs
 ·rw [akr hi]
  exact (h.r (toQ q[i]) (List.mem_map_of_mem (List.getElem_mem hi))).2.1.2
theorem qPn {q:CtP} {c:Cfg} {k w t o l:Int} (h1:k≠1) (h13:k≠13) (h2:k≠2):aaH q c ⟨k,w,t,o,l⟩=some ((true,()),(q,())):=by
 unfold aaH
 rw [if_neg (show ¬ k=1 from h1),if_neg (show ¬ k=13 from h13),if_neg (show ¬ k=2 from h2)]
theorem aFI {c:Cfg} {q:CtP} {e:Ev} {s s':List QK×Int} (hs:SQ s.1 s.2) (hk:q.keys.map toQ=s.1) (hn:q.count=s.2) (h0:0≤s.2) (hl:s.1.length≤1000) (h:ahS c s e=some s'):∃ q':CtP,aaH q c e=some ((true,()),(q',()))∧q'.keys.map toQ=s'.1∧q'.count=s'.2:=by
 obtain ⟨k,w,t,o,l⟩:=e
 have hlen:q.keys.length=s.1.length:=by rw [← hk,List.length_map]
 unfold ahS at h
 simp only at h
 by_cases k1:k=1
 ·subst k1
  rw [if_pos rfl] at h
  split at h
  case isFalse =>cases h
  rename_i hg
  obtain rfl:=Option.some.inj h
  have hsrt:Srt q.keys q.count:=by rw [hn]; exact aGl (by rw [hk]; exact hs)
  obtain ⟨i,i1,i2,i3,e1⟩:=(qP1 (w:=w) (t:=t) (l:=l) (q:=q) hg.1 hsrt (by omega)).2 (by rw [hlen]; exact hg.2.1)
  refine ⟨_,e1,?_,?_⟩
  ·rw [hn]
   show ((q.keys.take i++[(⟨(abf c.subs o).deadline,s.2,t⟩:KyV)]++q.keys.drop i).map toQ)=aue ⟨(abf c.subs o).deadline,s.2,t⟩ s.1
   rw [awT (k:=(⟨(abf c.subs o).deadline,s.2,t⟩:KyV)) i1 (fun j hj hi =>by have:=i2 j hi; rwa [akr hj] at this) (fun j hj hi =>by have:=i3 j hi hj; rwa [akr hj] at this),hk]
   rfl
  ·show wi (q.count+1)=s.2+1
   rw [hn]
   exact aaw (aai (by have:=hs.b; omega))
 rw [if_neg k1] at h
 by_cases k13:k=13
 ·subst k13
  rw [if_pos rfl] at h
  obtain ⟨ks,cn⟩:=q
  simp only at hk hn hlen
  cases ks with
  | nil =>
   rw [← hk] at h
   cases h
  | cons x ks =>
   rw [← hk] at h
   simp only [List.map_cons] at h
   split at h
   case isFalse =>cases h
   rename_i ht
   obtain rfl:=Option.some.inj h
   refine ⟨⟨ks,cn⟩,?_,rfl,hn⟩
   rw [aJK,if_pos ⟨by simp,by show x.task=t; exact ht⟩]
   rfl
 rw [if_neg k13] at h
 by_cases k2:k=2
 ·subst k2
  rw [if_pos rfl] at h
  split at h
  case isFalse =>cases h
  rename_i hg
  obtain rfl:=Option.some.inj h
  refine ⟨q,?_,hk,hn⟩
  rw [qP2]
  by_cases hl1:l≠1
  ·rw [if_pos hl1]
  ·rw [if_neg hl1,decide_eq_true (by rw [hlen]; exact hg.resolve_left hl1)]
 rw [if_neg k2] at h
 obtain rfl:=Option.some.inj h
 exact ⟨q,qPn k1 k13 k2,hk,hn⟩
end
section
open Go Go.RowKit
set_option maxRecDepth 100000
variable [Tb]
structure Rsd (c:Cfg) (e e':EnvP) (t v:Int):Prop where
 i:MI c e'
 tk:TOk c t
 vk:0≤v∧v<c.levels
 up:Lv c e t<v
 now:Lv c e' t=v
 ot:∀ u,u≠t→Lv c e' u=Lv c e u
 nx:e'.gt 0=e.gt 0
 ev:∃ k w o l,(k=11∨k=12)∧e'.evs=e.evs++(⟨k,w,t,o,v⟩::l)∧∀ x∈l,Pl c x
def Rz (c:Cfg) (e e':EnvP):Prop:=Qt c e e'∨∃ t v,Rsd c e e' t v
section
variable {c:Cfg} {e e':EnvP} {w v x:Int}
theorem Rsd.em {t v k w u o l:Int} (h:Rsd c e e' t v) (ht:0≤u∧u<c.tasks) (hk:k≠1∧k≠3∧k≠11∧k≠12):Rsd c e (e'.em k w u o l) t v:=by
 obtain ⟨k1,w1,o1,m,h1,hm,hp⟩:=h.ev
 refine ⟨⟨h.i.d,h.i.l,h.i.cc,h.i.ok⟩,h.tk,h.vk,h.up,h.now,h.ot,h.nx,k1,w1,o1,m++[⟨k,w,u,o,l⟩],h1,?_,fun x hx =>?_⟩
 ·show e'.evs++[_]=_
  rw [hm,List.append_assoc,List.cons_append]
 ·rcases List.mem_append.1 hx with hx | hx
  ·exact hp x hx
  ·rw [List.mem_singleton.1 hx]
   exact ⟨ht,hk⟩
theorem Rz.em {k w u o l:Int} (h:Rz c e e') (ht:0≤u∧u<c.tasks) (hk:k≠1∧k≠3∧k≠11∧k≠12):Rz c e (e'.em k w u o l):=by
 rcases h with h | ⟨t,v,h⟩
 ·exact .inl (h.em ht hk)
 ·exact .inr ⟨t,v,h.em ht hk⟩
theorem Rz.i (h:Rz c e e'):MI c e':=by
 rcases h with h | ⟨t,v,h⟩
 ·exact h.i
 ·exact h.i
theorem Qt.same (h:MI c e) (h1:∀ b,e'.gt b=e.gt b) (h2:e'.l=e.l) (h3:e'.c=e.c) (h4:e'.evs=e.evs):Qt c e e' :=
 ⟨⟨h.d,by rw [h2]; exact h.l,by rw [h3]; exact h.cc,fun a =>by rw [h1]; exact h.ok a⟩,fun t =>h1 _,h1 _,[],by rw [h4]; simp,fun x hx =>by cases hx⟩
theorem auz {a o v b:Int}:(e.cas a o v).gt b=if e.hit a o=true∧b=a then v else e.gt b:=by
 have h:(e.cas a o v).gt b=(e.pt 3 a (if e.m.gt a=o then v else e.m.gt a)).gt b:=rfl
 rw [h,ae4]
 by_cases hr:0≤a∧a<(e.m.cells.length:Int)
 ·have hg:e.m.gt a=aeu e.m.cells a:=by unfold MemV.gt; rw [if_pos hr]
  by_cases hh:aeu e.m.cells a=o
  ·have h1:e.hit a o=true:=by show decide _=true; rw [decide_eq_true ⟨hr,hh⟩]
   by_cases hb:b=a
   ·rw [if_pos (show b=a∧0≤a∧a<(e.m.cells.length:Int) from ⟨hb,hr⟩),if_pos (show e.hit a o=true∧b=a from ⟨h1,hb⟩),hg,if_pos hh]
   ·rw [if_neg (show ¬ (b=a∧0≤a∧a<(e.m.cells.length:Int)) from fun h =>hb h.1),if_neg (show ¬ (e.hit a o=true∧b=a) from fun h =>hb h.2)]
  ·have h1:¬ e.hit a o=true:=by
    show ¬ decide _=true
    rw [decide_eq_true_iff]
    exact fun h =>hh h.2
   rw [if_neg (show ¬ (e.hit a o=true∧b=a) from fun h =>h1 h.1)]
   by_cases hb:b=a
   ·rw [if_pos (show b=a∧0≤a∧a<(e.m.cells.length:Int) from ⟨hb,hr⟩),hg,if_neg hh,hb]; exact hg.symm
   ·rw [if_neg (show ¬ (b=a∧0≤a∧a<(e.m.cells.length:Int)) from fun h =>hb h.1)]
 ·have h1:¬ e.hit a o=true:=by
   show ¬ decide _=true
   rw [decide_eq_true_iff]
   exact fun h =>hr h.1
  rw [if_neg (show ¬ (e.hit a o=true∧b=a) from fun h =>h1 h.1),if_neg (show ¬ (b=a∧0≤a∧a<(e.m.cells.length:Int)) from fun h =>hr h.2)]
theorem Qt.miss {a o v:Int} (h:MI c e) (hm:¬ e.hit a o=true):Qt c e (e.cas a o v):=.same h (fun b =>by rw [auz,if_neg (fun h =>hm h.1)]) rfl rfl rfl
theorem aHs {a o:Int} (h:e.hit a o=true):e.gt a=o∧0≤a:=by
 have h:decide ((0≤a∧a<(e.m.cells.length:Int))∧aeu e.m.cells a=o)=true:=h
 have h:=of_decide_eq_true h
 refine ⟨?_,h.1.1⟩
 show e.m.gt a=o
 unfold MemV.gt
 rw [if_pos h.1]; exact h.2
theorem at8 (hd:DecOk c) {t u:Int} (ht:TOk c t) (h:abX (aaE c) u=abX (aaE c) t):u=t:=by
 have e1:=aft hd (t:=t) (f:=1) (by omega)
 have e2:=aft hd (t:=u) (f:=1) (by omega)
 have e3:=ahD hd
 have h4:=hd.h
 have h:aeH (aaE c) u 1=aeH (aaE c) t 1:=h
 have ht:0≤t∧t<c.tasks:=ht
 rw [e1,e2,if_pos ht] at h
 by_cases hu:0≤u∧u<c.tasks
 ·rw [if_pos hu] at h; omega
 ·rw [if_neg hu] at h; omega
theorem awP (hd:DecOk c) {t v:Int} (hv:0≤v∧v<c.levels):CellOk c (abX (aaE c) t) v:=by
 have e:=ag5 hd (t:=t)
 exact ⟨hv.1,fun k =>by omega,fun k =>by omega,fun k =>hv.2⟩
theorem ayp (h:MI c e) {t q v k w o:Int} (ht:TOk c t) (hv:0≤v∧v<c.levels) (hq:q<v) (hh:e.hit (abX (aaE c) t) q=true) (hk:k=11∨k=12):Rsd c e ((e.cas (abX (aaE c) t) q v).em k w t o v) t v:=by
 have hg:=aHs hh
 refine ⟨⟨h.d,h.l,h.cc,fun b =>?_⟩,ht,hv,by show e.gt _<v; omega,?_,fun u hu =>?_,?_,k,w,o,[],hk,rfl,fun x hx =>by cases hx⟩
 ·show CellOk c b ((e.cas _ q v).gt b)
  rw [auz]
  split
  ·rename_i q; rw [q.2]; exact awP h.d hv
  ·exact h.ok b
 ·show (e.cas _ q v).gt _=v
  rw [auz,if_pos ⟨hh,rfl⟩]
 ·show (e.cas _ q v).gt _=e.gt _
  rw [auz,if_neg (fun h' =>hu (at8 h.d ht h'.2))]
 ·show (e.cas _ q v).gt 0=e.gt 0
  rw [auz,if_neg]
  intro h'
  have h1:=ag5 h.d (t:=t)
  rw [← h'.2,afB] at h1
  omega
def as6 (v:Int):RaiseS→Prop
 | .l1 _ =>True
 | .l2 q =>q<v
theorem aEg {t:Int} (h:MI c e) (s:RaiseS) (hs:as6 v s):Rz c e (aew w t v e s).2∧(aew w t v e s).1.Q (as6 v) (fun _ _ =>True):=by
 unfold aew
 rw [h.l]
 split
 ·exact ⟨.inl (.refl h),trivial⟩
 rename_i hf
 have hf:axW e t v:=Classical.not_not.1 hf
 unfold axW at hf
 rw [h.cc] at hf
 have hl:=h.d.l
 cases s with
 | l1 q =>
  refine ⟨.inl (.lk h),?_⟩
  have hg:=awX h t
  have e1:wi (Lv c e t)=Lv c e t:=aaw (aai (by omega))
  show Rs.Q _ _ (if v≤wi (Lv c e t) then _ else _)
  rw [e1]
  exact .ite (fun _ =>trivial) fun hn =>by show Lv c e t<v; omega
 | l2 q =>
  have e2:wu v=v:=ae9 (by omega)
  simp only
  split
  ·rename_i hh
   rw [e2]
   exact ⟨.inr ⟨t,v,ayp h hf.1 hf.2 hs hh (.inl rfl)⟩,trivial⟩
  ·rename_i hh
   exact ⟨.inl (.miss h hh),trivial⟩
def aiQ:LPushS→Prop
 | .push s =>anI s
 | _ =>True
theorem apO (h:MI c e) (hx:TOk c x) (s:LPushS) (hs:aiQ s):Qt c e (ace w v x e s).2∧(ace w v x e s).1.Q aiQ (fun _ _ =>True):=by
 have g:∀ s,anI s→Qt c e (match afc (aax e.l w v) x e s with
   | (.go s,e') =>(Rs.go (LPushS.push s),e')
   | (.fin c _,e') =>(if c=3 then .fin 3 0 else .go .set,e')).2∧(match afc (aax e.l w v) x e s with
   | (.go s,e') =>(Rs.go (LPushS.push s),e')
   | (.fin c _,e') =>(if c=3 then .fin 3 0 else .go .set,e')).1.Q aiQ (fun _ _ =>True):=fun s hs =>by
  have:=aEx (w:=w) (v:=v) h hx s hs
  rw [h.l]
  revert this
  rcases afc (aax (aaE c) w v) x e s with ⟨r,e'⟩
  intro this
  cases r with
  | go s =>exact this
  | fin c0 v0 =>exact ⟨this.1,.ite (fun _ =>trivial) fun _ =>trivial⟩
 cases s with
 | new =>exact g .l1 trivial
 | push s =>exact g _ hs
 | set =>
  refine ⟨?_,trivial⟩
  show Qt c e (aFO (aaN e.l w) v e)
  rw [h.l]
  exact aIz h
def aAG:LPopS→Prop
 | .l2 _ s =>aAF s
 | _ =>True
theorem aHh (h:MI c e) (s:LPopS) (hs:aAG s):Qt c e (ahU w e s).2∧(ahU w e s).1.Q aAG (fun r x =>r≠2→TOk c x):=by
 cases s with
 | l1 v =>
  unfold ahU
  exact ⟨.lk h,.ite (fun _ =>fun h =>absurd rfl h) fun _ =>trivial⟩
 | l2 v s =>
  have:=aGM (w:=w) (v:=v) h s hs
  simp only [ahU]
  rw [h.l]
  revert this
  rcases aom (aax (aaE c) w v) e s with ⟨r,e'⟩
  intro this
  cases r with
  | go s =>exact this
  | fin c0 v0 =>exact ⟨this.1,.ite (fun hc =>fun _ =>this.2 hc) fun _ =>trivial⟩
 | l3 v s =>
  have:=ayy (w:=w) (v:=v) (a:=w) (b:=v) h s
  simp only [ahU]
  rw [h.l]
  revert this
  rcases agm (aaN (aaE c) w) v (aax (aaE c) w v) e s with ⟨r,e'⟩
  intro this
  cases r with
  | go s =>exact ⟨this,trivial⟩
  | fin c0 v0 =>exact ⟨this,trivial⟩
def aqB (c:Cfg) (v:Int):WalkS→Prop
 | .l1 _ =>True
 | .raise t s =>TOk c t∧as6 v s
 | .l2 t =>TOk c t
 | .push t s =>TOk c t∧aiQ s
 | .l4 _ =>True
theorem aGb (h:MI c e) (s:WalkS) (hs:aqB c v s):Rz c e (af8 w v e s).2∧(af8 w v e s).1.Q (aqB c v) (fun _ _ =>True):=by
 have g:∀ t s,TOk c t→as6 v s→Rz c e (match aew w t v e s with
   | (.go s,e') =>(Rs.go (WalkS.raise t s),e')
   | (.fin c _,e') =>(.go (if c=1 then .l2 t else .l4 t),e')).2∧(match aew w t v e s with
   | (.go s,e') =>(Rs.go (WalkS.raise t s),e')
   | (.fin c _,e') =>(.go (if c=1 then .l2 t else .l4 t),e')).1.Q (aqB c v) (fun _ _ =>True):=fun t s ht hs =>by
  have:=aEg (w:=w) (t:=t) h s hs
  revert this
  rcases aew w t v e s with ⟨r,e'⟩
  intro this
  cases r with
  | go s =>exact ⟨this.1,ht,this.2⟩
  | fin c0 v0 =>
   refine ⟨this.1,?_⟩
   show aqB c v (if c0=1 then .l2 t else .l4 t)
   split
   ·exact ht
   ·trivial
 cases s with
 | l1 t =>
  simp only [af8]
  split
  ·exact ⟨.inl (.refl h),trivial⟩
  ·rename_i hf
   have hf:axW e t v:=Classical.not_not.1 hf
   unfold axW at hf
   rw [h.cc] at hf
   exact g t _ hf.1 trivial
 | raise t s =>exact g t s hs.1 hs.2
 | l2 t =>
  refine ⟨.inl (.lk h),?_⟩
  show aqB c v (if e.gt (adr e.l t)=1 then .push t .new else .l4 t)
  split
  ·exact ⟨hs,trivial⟩
  ·trivial
 | push t s =>
  have:=apO (w:=w) (v:=v) h hs.1 s hs.2
  simp only [af8]
  revert this
  rcases ace w v t e s with ⟨r,e'⟩
  intro this
  cases r with
  | go s =>exact ⟨.inl this.1,hs.1,this.2⟩
  | fin c0 v0 =>
   refine ⟨.inl ?_,trivial⟩
   show Qt c e (if c0=3 then e'.em 19 w t 0 v else e')
   split
   ·exact this.1.em hs.1 (by omega)
   ·exact this.1
 | l4 t =>
  simp only [af8]
  exact ⟨.inl (.lk h),.ite (fun _ =>trivial) fun _ =>trivial⟩
def as8:EnterS→Prop
 | .l4 _ s =>aiQ s
 | _ =>True
theorem aFq {t:Int} (h:MI c e) (ht:TOk c t) (s:EnterS) (hs:as8 s):Qt c e (adZ w t e s).2∧(adZ w t e s).1.Q as8 (fun _ _ =>True):=by
 cases s with
 | l1 =>
  simp only [adZ]
  rw [h.l]
  split
  ·exact ⟨.refl h,trivial⟩
  ·exact ⟨.fr h (aoO h.d) (aho _),trivial⟩
 | l2 =>
  simp only [adZ]
  rw [h.l]
  exact ⟨.fr h (agF h.d) (by omega),trivial⟩
 | l3 =>exact ⟨.lk h,trivial⟩
 | l4 v s =>
  have:=apO (w:=w) (v:=v) h ht s hs
  simp only [adZ]
  revert this
  rcases ace w v t e s with ⟨r,e'⟩
  intro this
  cases r with
  | go s =>exact this
  | fin c0 v0 =>exact ⟨this.1,trivial⟩
def as5 (c:Cfg):SweepS→Prop
 | .l4 q =>0≤q∧q+1<c.levels
 | .l6 _ s =>aiQ s
 | _ =>True
theorem aDv {t:Int} (h:MI c e) (ht:TOk c t) (s:SweepS) (hs:as5 c s):Rz c e (abA w t e s).2∧(abA w t e s).1.Q (as5 c) (fun _ _ =>True):=by
 have hl:=h.d.l
 cases s with
 | l1 =>
  simp only [abA]
  split
  ·exact ⟨.inl (.refl h),trivial⟩
  ·exact ⟨.inl (.lk h),.ite (fun _ =>trivial) fun _ =>trivial⟩
 | l2 =>
  simp only [abA]
  exact ⟨.inl (.lk h),.ite (fun _ =>trivial) fun _ =>trivial⟩
 | l3 =>
  simp only [abA]
  rw [h.l,h.cc]
  refine ⟨.inl (.lk h),.ite (fun _ =>trivial) fun hn =>?_⟩
  have hg:=awX h t
  have e1:wi (Lv c e t)=Lv c e t:=aaw (aai (by omega))
  have e2:wi (c.levels-1)=c.levels-1:=aaw (aai (by omega))
  have hn:¬ wi (c.levels-1)≤wi (Lv c e t):=hn
  rw [e1,e2] at hn
  show 0≤Lv c e t∧Lv c e t+1<c.levels
  omega
 | l4 q =>
  have hs:0≤q∧q+1<c.levels:=hs
  have e1:wu (q+1)=q+1:=ae9 (by omega)
  have e2:wi (wi q+1)=q+1:=by rw [aaw (x:=q) (aai (by omega)),aaw (aai (by omega))]
  simp only [abA]
  rw [h.l,e1,e2]
  split
  ·rename_i hh
   exact ⟨.inr ⟨t,q+1,ayp h ht (by omega) (by omega) hh (.inr rfl)⟩,trivial⟩
  ·rename_i hh
   exact ⟨.inl (.miss h hh),trivial⟩
 | l5 q =>
  simp only [abA]
  rw [h.l]
  exact ⟨.inl (.fr h (aoO h.d) (aho _)),trivial⟩
 | l6 q s =>
  have:=apO (w:=w) (v:=wi (wi q+1)) h ht s hs
  simp only [abA]
  revert this
  rcases ace w (wi (wi q+1)) t e s with ⟨r,e'⟩
  intro this
  cases r with
  | go s =>exact ⟨.inl this.1,this.2⟩
  | fin c0 v0 =>
   refine ⟨.inl ?_,trivial⟩
   show Qt c e (if c0=3 then e'.em 19 w t 0 _ else e')
   split
   ·exact this.1.em ht (by omega)
   ·exact this.1
def aAE (c:Cfg):TakeS→Prop
 | .pop s =>aAG s
 | .claim t =>TOk c t
theorem aGi (h:MI c e) (s:TakeS) (hs:aAE c s):Qt c e (ak0 w e s).2∧(ak0 w e s).1.Q (aAE c) (fun r x =>r=1→TOk c x):=by
 cases s with
 | pop s =>
  have:=aHh (w:=w) h s hs
  simp only [ak0]
  revert this
  rcases ahU w e s with ⟨r,e'⟩
  intro this
  cases r with
  | go s =>exact this
  | fin c0 v0 =>exact ⟨this.1,.ite (fun _ =>fun h =>absurd h (by omega)) fun hn =>this.2 hn⟩
 | claim t =>exact ⟨alk h hs,.ite (fun _ =>fun _ =>hs) fun _ =>trivial⟩
def auR (c:Cfg) (d:DrainS):Prop:=(d.direct=true→TOk c d.x)∧match d.c with
 | .l3 s =>amG c s
 | .l4 =>TOk c d.x
 | .l5 s =>TOk c d.x∧aiQ s
 | _ =>True
theorem aw3 {d:DrainS} (h:d.direct=true→TOk c d.x):(ah3 d).Q (auR c) (fun r x =>r=1→TOk c x):=by
 unfold ah3
 exact .ite (fun k =>fun _ =>h k) fun _ =>.ite (fun _ =>fun h =>absurd h (by omega)) fun _ =>fun h =>absurd h (by omega)
theorem aFs (h:MI c e) (d:DrainS) (hd:auR c d):Qt c e (abI w e d).2∧(abI w e d).1.Q (auR c) (fun r x =>r=1→TOk c x):=by
 obtain ⟨x,dir,p,last,cnt,k⟩:=d
 obtain ⟨h1,h2⟩:=hd
 cases k with
 | l1 =>
  simp only [abI]
  exact ⟨.lk h,.ite (fun _ =>fun h =>absurd h (by omega)) fun _ =>⟨h1,trivial⟩⟩
 | l2 =>
  simp only [abI]
  exact ⟨at6 h,.ite (fun _ =>⟨h1,trivial⟩) fun _ =>fun h =>absurd h (by omega)⟩
 | l3 s =>
  have:=aBo (w:=w) h s h2
  simp only [abI]
  revert this
  rcases aby w e s with ⟨r,e'⟩
  intro this
  cases r with
  | go s =>exact ⟨this.1,h1,this.2⟩
  | fin c0 v0 =>exact ⟨this.1,.ite (fun _ =>⟨h1,trivial⟩) fun hn =>⟨fun _ =>this.2 hn,this.2 hn⟩⟩
 | l4 =>
  simp only [abI]
  exact ⟨.lk h,h1,h2,trivial⟩
 | l5 s =>
  have:=apO (w:=w) (v:=p) h h2.1 s h2.2
  simp only [abI]
  revert this
  rcases ace w p x e s with ⟨r,e'⟩
  intro this
  cases r with
  | go s =>exact ⟨this.1,h1,h2.1,this.2⟩
  | fin c0 v0 =>exact ⟨this.1,.ite (fun _ =>⟨fun _ =>h2.1,trivial⟩) fun _ =>.ite (fun _ =>⟨h1,trivial⟩) fun _ =>⟨h1,trivial⟩⟩
 | l6 =>
  simp only [abI]
  exact ⟨azB h,.ite (fun _ =>⟨h1,trivial⟩) fun _ =>aw3 h1⟩
 | l7 s =>
  have:=ath (w:=w) (v:=last) h s
  simp only [abI]
  revert this
  rcases aev w last e s with ⟨r,e'⟩
  intro this
  cases r with
  | go s =>exact ⟨this,h1,trivial⟩
  | fin c0 v0 =>exact ⟨this,aw3 h1⟩
end
structure Al (c:Cfg) (e e':EnvP):Prop where
 i:MI c e'
 lv:∀ t,Lv c e' t=Lv c e t
 nx:e'.gt 0=wu (e.gt 0+1)∨e'.gt 0=e.gt 0
 ev:∃ l,e'.evs=e.evs++l∧∀ x∈l,Pl c x
structure Al1 (c:Cfg) (e e':EnvP):Prop where
 a:Al c e e'
 n:e'.gt 0=wu (e.gt 0+1)
structure W0 (c:Cfg) (e e':EnvP) (t v:Int):Prop where
 i:MI c e'
 now:Lv c e' t=v
 ot:∀ u,u≠t→Lv c e' u=Lv c e u
 nx:e'.gt 0=e.gt 0
 ev:e'.evs=e.evs
structure An (c:Cfg) (e e':EnvP) (t v:Int):Prop where
 i:MI c e'
 lv:∀ t,Lv c e' t=Lv c e t
 nx:e'.gt 0=e.gt 0
 ev:∃ l k w o,(k=1∨k=3)∧(∀ x∈l,Pl c x)∧e'.evs=e.evs++l++[⟨k,w,t,o,v⟩]
abbrev ars:=Option (Int×Int×Bool)
inductive Tr (c:Cfg) (e e':EnvP):ars→ars→Prop
 | same (p:ars) (h:Rz c e e'):Tr c e e' p p
 | drop (p:ars) (h:Rz c e e'):Tr c e e' p none
 | al (h:Al c e e'):Tr c e e' none none
 | al1 (v:Int) (h:Al1 c e e') (ht:TOk c (wi (e.gt 0))) (hv:0≤v∧v<c.levels):Tr c e e' none (some (wi (e.gt 0),v,false))
 | w0 (t v:Int) (h:W0 c e e' t v):Tr c e e' (some (t,v,false)) (some (t,v,true))
 | an (t v:Int) (h:An c e e' t v):Tr c e e' (some (t,v,true)) none
section
variable {c:Cfg} {e e':EnvP} {w:Int}
theorem Tr.i {p q:ars} (h:Tr c e e' p q):MI c e':=by
 cases h with
 | same _ h =>exact h.i
 | drop _ h =>exact h.i
 | al h =>exact h.i
 | al1 _ h =>exact h.a.i
 | w0 _ _ h =>exact h.i
 | an _ _ h =>exact h.i
theorem aCI (h:MI c e):Al c e (aff e)∧(0<(e.m.cells.length:Int)→Al1 c e (aff e)):=by
 have hv:CellOk c 0 (wu (e.gt 0+1)):=⟨aho _,fun k =>by rw [afB] at k; omega,fun k =>by rw [afB] at k; omega,fun k =>by rw [afB] at k; omega⟩
 have hl:∀ t,Lv c (aff e) t=Lv c e t:=fun t =>by
  show (e.pt 6 0 (wu (e.gt 0+1))).gt _=e.gt _
  rw [ae4,if_neg]
  intro h'
  have h1:=ag5 h.d (t:=t)
  rw [h'.1,afB] at h1
  omega
 have hn:(aff e).gt 0=if (0:Int)=0∧0≤(0:Int)∧0<(e.m.cells.length:Int) then wu (e.gt 0+1) else e.gt 0:=ae4
 have ha:Al c e (aff e):=⟨h.pt hv,hl,by rw [hn]; split; exact .inl rfl; exact .inr rfl,[],by show e.evs=_; simp,fun x hx =>by cases hx⟩
 exact ⟨ha,fun hp =>⟨ha,by rw [hn,if_pos ⟨rfl,Int.le_refl 0,hp⟩]⟩⟩
theorem Al.em {k w o l t:Int} (h:Al c e e') (ht:0≤t∧t<c.tasks) (hk:k≠1∧k≠3∧k≠11∧k≠12):Al c e (e'.em k w t o l):=by
 obtain ⟨m,hm,hp⟩:=h.ev
 refine ⟨⟨h.i.d,h.i.l,h.i.cc,h.i.ok⟩,h.lv,h.nx,m++[⟨k,w,t,o,l⟩],?_,fun x hx =>?_⟩
 ·show e'.evs++[_]=_
  rw [hm,List.append_assoc]
 ·rcases List.mem_append.1 hx with hx | hx
  ·exact hp x hx
  ·rw [List.mem_singleton.1 hx]
   exact ⟨ht,hk⟩
theorem Al.pr {t:Int} {r:RecP} (h:Al c e e'):Al c e (e'.pr t r):=⟨⟨h.i.d,h.i.l,h.i.cc,h.i.ok⟩,h.lv,h.nx,h.ev⟩
theorem Al1.pr {t:Int} {r:RecP} (h:Al1 c e e'):Al1 c e (e'.pr t r):=⟨h.a.pr,h.n⟩
theorem aGd (h:MI c e) {t v:Int} (ht:TOk c t) (hv:0≤v∧v<c.levels) (hr:abX (aaE c) t<(e.m.cells.length:Int)):W0 c e (e.pt 2 (abX (aaE c) t) v) t v:=by
 have e1:0≤abX (aaE c) t:=by
  have:=ag5 h.d (t:=t)
  have e2:=aft h.d (t:=t) (f:=1) (by omega)
  have e3:=ahD h.d
  have e4:=h.d.h
  show 0≤aeH (aaE c) t 1
  have ht:0≤t∧t<c.tasks:=ht
  rw [e2,if_pos ht]
  omega
 refine ⟨h.pt (awP h.d hv),?_,fun u hu =>?_,?_,rfl⟩
 ·show (e.pt _ _ _).gt _=v
  rw [ae4,if_pos ⟨rfl,e1,hr⟩]
 ·show (e.pt _ _ _).gt _=e.gt _
  rw [ae4,if_neg (fun h' =>hu (at8 h.d ht h'.1))]
 ·rw [ae4,if_neg]
  intro h'
  have h1:=ag5 h.d (t:=t)
  rw [← h'.1,afB] at h1
  omega
theorem Qt.an {t v k w o:Int} (h:Qt c e e') (hk:k=1∨k=3):An c e (e'.em k w t o v) t v:=by
 obtain ⟨m,hm,hp⟩:=h.ev
 exact ⟨⟨h.i.d,h.i.l,h.i.cc,h.i.ok⟩,h.lv,h.nx,m,k,w,o,hk,hp,by show e'.evs++[_]=_; rw [hm]⟩
def aF2 (c:Cfg) (r:RunS):Prop:=match r.c with
 | .s2 _ =>TOk c r.id∧(0≤r.level∧r.level<c.levels)
 | .s3 s =>TOk c r.id∧aiQ s
 | .s5 =>TOk c r.id
 | .j5 s =>aqB c r.level s
 | .f4 s =>TOk c r.waiter∧as8 s
 | .f6 =>TOk c r.waiter
 | _ =>True
def aEk (r:RunS):ars:=match r.c with
 | .s2 .l1 =>some (r.id,r.level,false)
 | .s2 _ =>some (r.id,r.level,true)
 | _ =>none
def aCL (c:Cfg) (e:EnvP) (p:ars) (o:Rs RunS×EnvP):Prop:=Tr c e o.2 p (match o.1 with
 | .go r =>aEk r
 | .fin _ _ =>none)∧o.1.Q (aF2 c) (fun _ _ =>True)
theorem aCL.ite {p:ars} {P:Prop} [Decidable P] {a b:Rs RunS×EnvP} (h1:P→aCL c e p a) (h2:¬ P→aCL c e p b):aCL c e p (if P then a else b):=by
 split
 ·exact h1 ‹_›
 ·exact h2 ‹_›
theorem apV {r:RunS} (h:Rz c e e'):aCL c e none (ahW r e'):=by
 unfold ahW aCL
 by_cases h1:r.stack.length=1
 ·rw [if_pos h1]; exact ⟨.same _ h,trivial⟩
 ·rw [if_neg h1]; exact ⟨.same _ h,trivial⟩
theorem aGF (h:MI c e) {x:RecP} {i:Int} (hi:¬ (i<0∨((e.prog x).length:Int)≤i)) (ho:(acu (e.prog x) i).op=1):0≤(acu (e.prog x) i).b∧(acu (e.prog x) i).b<c.levels:=by
 have hm:acu (e.prog x) i∈e.prog x:=auF (α:=Ins) (d:=(dfR 3:TR 3)) (by omega)
 have hp:e.prog x∈c.progs∨e.prog x=[]:=by
  unfold EnvP.prog
  rw [h.cc]
  split
  ·exact .inr rfl
  ·exact .inl (auF (by omega))
 rcases hp with hp | hp
 ·rcases h.d.ps _ hp _ hm with k | k | k
  ·omega
  ·exact k.2.2.2
  ·omega
 ·rw [hp] at hm; cases hm
theorem aGu {t:Int} {r:RunS} (h:MI c e) (hl:(e.m.cells.length:Int)=aa9 c) (ht:TOk c t) (hc:r.c=.next):aCL c e none (at3 w e r t (e.rc t) (e.prog (e.rc t))):=by
 have hp:aEk r=none:=by unfold aEk; rw [hc]
 have hg:aF2 c r:=by unfold aF2; rw [hc]; trivial
 have hs:∀ {e':EnvP},Rz c e e'→aCL c e none (.go r,e'):=fun h =>⟨by show Tr c e _ none (aEk r); rw [hp]; exact .same _ h,hg⟩
 have h0:0<(e.m.cells.length:Int):=by
  have:=ahD h.d
  have h4:=h.d.h
  have h5:=h.d.t
  rw [hl]; unfold aa9; omega
 unfold at3
 rw [h.l]
 refine .ite (fun _ =>hs (.inl (Qt.fr h (asv h.d) (by omega)).pr)) fun _ =>?_
 refine .ite (fun _ =>⟨.same _ (.inl (.fr h (agF h.d) (by omega))),trivial⟩) fun hi =>?_
 refine .ite (fun _ =>hs (.inl (Qt.refl h).pr)) fun _ =>?_
 refine .ite (fun ho =>?_) fun _ =>?_
 ·refine .ite (fun hn =>?_) fun hn =>?_
  ·have hn:TOk c (wi (e.gt 0)):=by unfold IsT at hn; rw [h.cc] at hn; exact hn
   have hb:=aGF h hi ho
   exact ⟨.al1 _ (((aCI h).2 h0).pr.pr) hn hb,hn,hb⟩
  ·exact ⟨by show Tr c e _ none (aEk r); rw [hp]; exact .al ((aCI h).1.pr.em ht (by omega)),hg⟩
 ·refine .ite (fun _ =>hs (.inl (Qt.refl h).pr)) fun _ =>?_
  exact ⟨.same _ (.inl (Qt.fr h (asv h.d) (aho _)).pr),trivial⟩
theorem aIB {r:RunS} (h:MI c e) (hl:(e.m.cells.length:Int)=aa9 c) (hr:aF2 c r):aCL c e (aEk r) (au2 w e r):=by
 unfold au2
 refine .ite (fun _ =>⟨.drop _ (.inl (.refl h)),trivial⟩) fun ht =>?_
 replace ht:IsT e (aaO r.stack):=Classical.not_not.1 ht
 unfold IsT at ht
 rw [h.cc] at ht
 revert ht
 generalize aaO r.stack=t
 intro ht
 obtain ⟨stack,id,child,level,waiter,k⟩:=r
 cases k with
 | next =>exact aGu h hl ht rfl
 | s2 s =>
  obtain ⟨h1,h2⟩:=hr
  have hl2:=h.d.l
  simp only [afZ,afx]
  have hi:¬ ¬ IsT e id:=by unfold IsT; rw [h.cc]; exact fun h =>h h1
  rw [if_neg hi,h.l]
  cases s with
  | l1 =>
   have h2:0≤level∧level<c.levels:=h2
   have e1:wu level=level:=ae9 (by omega)
   simp only [e1]
   refine ⟨.w0 _ _ (aGd h h1 h2 ?_),h1,h2⟩
   have e2:=aft h.d (t:=id) (f:=1) (by omega)
   show aeH (aaE c) id 1<_
   have h1:0≤id∧id<c.tasks:=h1
   rw [e2,if_pos h1,hl]
   unfold aa9
   omega
  | l2 =>exact ⟨.same _ (.inl (.fr h (aoO h.d) (aho _))),h1,h2⟩
  | l3 =>exact ⟨.an _ _ ((Qt.fr h (agF h.d) (by omega)).an (.inr rfl)),h1,trivial⟩
 | s3 s =>
  have:=apO (w:=w) (v:=level) h hr.1 s hr.2
  simp only [afZ]
  revert this
  rcases ace w level id e s with ⟨o,e'⟩
  intro this
  cases o with
  | go s =>exact ⟨.same _ (.inl this.1),hr.1,this.2⟩
  | fin c0 v0 =>
   simp only
   split
   ·exact ⟨.same _ (.inl this.1),hr.1⟩
   ·exact ⟨.same _ (.inl this.1),trivial⟩
 | s4 s =>
  have:=ath (w:=w) (v:=level) h s
  simp only [afZ]
  revert this
  rcases aev w level e s with ⟨o,e'⟩
  intro this
  cases o with
  | go s =>exact ⟨.same _ (.inl this),trivial⟩
  | fin c0 v0 =>exact ⟨.same _ (.inl this),trivial⟩
 | s5 =>
  simp only [afZ]
  split
  ·exact ⟨.same _ (.inl (alk h hr)),trivial⟩
  ·exact ⟨.same _ (.inl (alk h hr)),trivial⟩
 | j2 =>
  simp only [afZ]
  rw [h.l]
  exact ⟨.same _ (.inl (.fr h (agF h.d) (by omega))),trivial⟩
 | j3 =>
  simp only [afZ]
  rw [h.l]
  exact .ite (fun _ =>⟨.same _ (.inl ((Qt.cas h (asx h.d) (aho _)).em ht (by omega))),trivial⟩) fun _ =>⟨.same _ (.inl (.cas h (asx h.d) (aho _))),trivial⟩
 | j4 =>exact ⟨.same _ (.inl (.lk h)),trivial⟩
 | j5 s =>
  have:=aGb (w:=w) (v:=level) h s hr
  simp only [afZ]
  revert this
  rcases af8 w level e s with ⟨o,e'⟩
  intro this
  cases o with
  | go s =>exact ⟨.same _ this.1,this.2⟩
  | fin c0 v0 =>exact apV (this.1.em ht (by omega))
 | j6 =>
  simp only [afZ]
  rw [h.l]
  exact ⟨.same _ (.inl (.fr h (agF h.d) (by omega))),trivial⟩
 | j7 =>
  simp only [afZ]
  rw [h.l]
  exact ⟨.same _ (.inl ((Qt.fr h (asv h.d) (by omega)).pr.em ht (by omega))),trivial⟩
 | f2 =>
  simp only [afZ]
  rw [h.l]
  exact .ite (fun _ =>apV (.inl ((Qt.cas h (asx h.d) (by omega)).em ht (by omega)))) fun _ =>⟨.same _ (.inl ((Qt.cas h (asx h.d) (by omega)).em ht (by omega))),trivial⟩
 | f3 =>
  simp only [afZ]
  refine .ite (fun hn =>?_) fun _ =>apV (.inl (.lk h))
  unfold IsT at hn
  rw [h.cc] at hn
  exact ⟨.same _ (.inl (.lk h)),hn,trivial⟩
 | f4 s =>
  have:=aFq (w:=w) h hr.1 s hr.2
  simp only [afZ]
  revert this
  rcases adZ w waiter e s with ⟨o,e'⟩
  intro this
  cases o with
  | go s =>exact ⟨.same _ (.inl this.1),hr.1,this.2⟩
  | fin c0 v0 =>
   simp only
   split
   ·exact ⟨.same _ (.inl this.1),hr.1⟩
   ·exact ⟨.same _ (.inl this.1),trivial⟩
 | f5 v s =>
  have:=ath (w:=w) (v:=v) h s
  simp only [afZ]
  revert this
  rcases aev w v e s with ⟨o,e'⟩
  intro this
  cases o with
  | go s =>exact ⟨.same _ (.inl this),trivial⟩
  | fin c0 v0 =>exact apV (.inl this)
 | f6 =>
  simp only [afZ]
  exact .ite (fun _ =>⟨.same _ (.inl (alk h hr)),trivial⟩) fun _ =>apV (.inl (alk h hr))
end
section
variable {c:Cfg} {e e':EnvP} {w:Int}
def avU (c:Cfg) (k:WorkS):Prop:=match k.c with
 | .t1 t s =>TOk c t∧as5 c s
 | .t2 s =>aAE c s
 | .t3 s =>auR c s
 | .t5 s =>avV c s
 | .t6 =>TOk c k.x
 | .t7 s =>aF2 c s
 | _ =>True
def aH8 (k:WorkS):ars:=match k.c with
 | .t7 s =>aEk s
 | _ =>none
def as4 (c:Cfg) (e:EnvP) (p:ars) (o:WorkS×EnvP):Prop:=Tr c e o.2 p (aH8 o.1)∧avU c o.1
theorem as4.ite {p:ars} {P:Prop} [Decidable P] {a b:WorkS×EnvP} (h1:P→as4 c e p a) (h2:¬ P→as4 c e p b):as4 c e p (if P then a else b):=by
 split
 ·exact h1 ‹_›
 ·exact h2 ‹_›
theorem as4.ite1 {p:ars} {P:Prop} [Decidable P] {a b:WorkS} {e':EnvP} (h1:P→as4 c e p (a,e')) (h2:¬ P→as4 c e p (b,e')):as4 c e p (if P then a else b,e'):=by
 split
 ·exact h1 ‹_›
 ·exact h2 ‹_›
theorem aEH {a n:Int} (hn:1≤n∧n≤1000):0≤asb a n∧asb a n<n:=by
 have h1:Int.tmod a n<n ∧ -n<Int.tmod a n:=by
  constructor
  ·exact Int.tmod_lt_of_pos _ (by omega)
  ·have h2:Int.tmod (-a) n<n:=Int.tmod_lt_of_pos _ (by omega)
   rw [Int.neg_tmod] at h2
   omega
 unfold asb
 rw [if_neg (by omega)]
 split
 ·rw [aaw (aai (by omega))]; omega
 ·omega
theorem axX (h:MI c e) {k:WorkS} (hk:avU c k):avU c { k with c:=acb w e k }∧aH8 { k with c:=acb w e k }=aH8 k:=by
 obtain ⟨a,b,d,x,g⟩:=k
 have ht:=h.d.t
 cases g with
 | top =>
  unfold acb
  rw [h.cc]
  simp only
  split
  ·exact ⟨trivial,rfl⟩
  ·exact ⟨⟨aEH (by omega),trivial⟩,rfl⟩
 | _ =>exact ⟨hk,rfl⟩
theorem aF8 {k:WorkS} (h:MI c e) (hl:(e.m.cells.length:Int)=aa9 c) (hk:avU c k):as4 c e (aH8 k) (acZ w e k):=by
 have hB:=axX (w:=w) h hk
 unfold acZ
 revert hB
 generalize acb w e k=kc
 intro ⟨h1,h2⟩
 rw [← h2]
 cases kc with
 | top =>exact ⟨by rw [h2]; exact .same _ (.inl (.refl h)),hk⟩
 | t1 t s =>
  have:=aDv (w:=w) h h1.1 s h1.2
  simp only
  revert this
  rcases abA w t e s with ⟨o,e'⟩
  intro this
  cases o with
  | go s =>exact ⟨.same _ this.1,h1.1,this.2⟩
  | fin c0 v0 =>exact ⟨.same _ this.1,trivial⟩
 | t2 s =>
  have:=aGi (w:=w) h s h1
  simp only
  revert this
  rcases ak0 w e s with ⟨o,e'⟩
  intro this
  cases o with
  | go s =>exact ⟨.same _ (.inl this.1),this.2⟩
  | fin c0 v0 =>exact .ite1 (fun hc =>⟨.same none (.inl this.1),trivial⟩) fun _ =>⟨.same none (.inl this.1),fun h =>(by cases h),trivial⟩
 | t3 s =>
  have:=aFs (w:=w) h s h1
  simp only
  revert this
  rcases abI w e s with ⟨o,e'⟩
  intro this
  cases o with
  | go s =>exact ⟨.same _ (.inl this.1),this.2⟩
  | fin c0 v0 =>
   refine .ite1 (fun hc =>⟨.same none (.inl this.1),this.2 hc⟩) fun _ =>.ite1 (fun _ =>⟨.same none (.inl this.1),trivial⟩) fun _ =>?_
   unfold ap3
   split
   ·exact ⟨.same none (.inl this.1),trivial⟩
   ·exact ⟨.same none (.inl this.1),trivial⟩
 | t4 s =>
  have:=aEm (w:=w) h s
  simp only
  revert this
  rcases akP w e s with ⟨o,e'⟩
  intro this
  cases o with
  | go s =>exact ⟨.same _ (.inl this),trivial⟩
  | fin c0 v0 =>exact .ite1 (fun hc =>⟨.same none (.inl this),trivial⟩) fun _ =>⟨.same none (.inl this),trivial⟩
 | t5 s =>
  have:=aDI (w:=k.victim) (v:=k.level) h s h1
  simp only
  rw [h.l]
  revert this
  rcases aiS (aax (aaE c) k.victim k.level) e s with ⟨o,e'⟩
  intro this
  cases o with
  | go s =>exact ⟨.same _ (.inl this.1),this.2⟩
  | fin c0 v0 =>
   refine .ite (fun hc =>⟨.same none (.inl (this.1.em (this.2 hc) (by omega))),this.2 hc⟩) fun _ =>.ite (fun _ =>⟨.same none (.inl this.1),trivial⟩) fun _ =>⟨.same none (.inl this.1),trivial⟩
 | t6 =>
  have h1:TOk c k.x:=h1
  exact .ite1 (fun _ =>⟨.same none (.inl (alk h h1)),trivial⟩) fun _ =>⟨.same none (.inl (alk h h1)),trivial⟩
 | t7 s =>
  have:=aIB (w:=w) h hl h1
  simp only
  revert this
  rcases au2 w e s with ⟨o,e'⟩
  intro this
  cases o with
  | go s =>exact this
  | fin c0 v0 =>exact ⟨this.1,trivial⟩
 | t8 s =>
  have:=aDP (w:=w) h s
  simp only
  revert this
  rcases agk w e s with ⟨o,e'⟩
  intro this
  cases o with
  | go s =>exact ⟨.same _ (.inl this),trivial⟩
  | fin c0 v0 =>exact ⟨.same _ (.inl this),trivial⟩
 | t9 s =>
  have:=ayy (w:=k.victim) (v:=k.level) (a:=k.victim) (b:=k.level) h s
  simp only
  rw [h.l]
  revert this
  rcases agm (aaN (aaE c) k.victim) k.level (aax (aaE c) k.victim k.level) e s with ⟨o,e'⟩
  intro this
  cases o with
  | go s =>exact ⟨.same _ (.inl this),trivial⟩
  | fin c0 v0 =>exact ⟨.same _ (.inl this),trivial⟩
def aCN (c:Cfg) (k:ClieS):Prop:=0≤k.i∧match k.c with
 | .n4 =>TOk c k.id
 | .n5 =>TOk c k.id
 | .n6 =>TOk c k.id
 | .a6 s =>TOk c k.id∧ao0 c s
 | _ =>True
def aJB (subs:List Sub) (k:ClieS):ars:=match k.c with
 | .n4 =>some (k.id,(abf subs k.i).level,false)
 | .n5 =>some (k.id,(abf subs k.i).level,true)
 | .n6 =>some (k.id,(abf subs k.i).level,true)
 | .a6 _ =>some (k.id,(abf subs k.i).level,true)
 | _ =>none
def avY (c:Cfg) (e:EnvP) (p:ars) (o:Bool×ClieS×EnvP):Prop:=Tr c e o.2.2 p (aJB c.subs o.2.1)∧aCN c o.2.1
theorem avY.ite {p:ars} {P:Prop} [Decidable P] {a b:Bool×ClieS×EnvP} (h1:P→avY c e p a) (h2:¬ P→avY c e p b):avY c e p (if P then a else b):=by
 split
 ·exact h1 ‹_›
 ·exact h2 ‹_›
theorem az9 {k:ClieS} {p:ars} (hi:0≤k.i∧k.i≤1000) (h:Tr c e e' p none):avY c e p (aAa c.subs k e'):=by
 have e1:wi (k.i+1)=k.i+1:=aaw (aai (by omega))
 exact ⟨h,by show 0≤wi (k.i+1); omega,trivial⟩
theorem aHT {k:ClieS} {me:Int} (h:MI c e) (hl:(e.m.cells.length:Int)=aa9 c) (hk:aCN c k):avY c e (aJB c.subs k) (anq c.subs me e k):=by
 have hsn:=h.d.sn
 unfold anq
 refine .ite (fun _ =>⟨.same _ (.inl (.refl h)),hk⟩) fun hi =>?_
 obtain ⟨i,id,acc,g⟩:=k
 obtain ⟨h0,h1⟩:=hk
 have h0:0≤i:=h0
 have hi:i<(c.subs.length:Int):=by have hi:¬ (c.subs.length:Int)≤i:=hi; omega
 have hs:(0≤(abf c.subs i).level∧(abf c.subs i).level<c.levels):=(h.d.ss _ (auF (α:=Sub) (d:=(dfR 4:TR 4)) ⟨h0,hi⟩)).2.1
 have hz:=TOk.zero h.d
 show avY c e _ (adk c.subs me e ⟨i,id,acc,g⟩ (abf c.subs i))
 cases g with
 | n1 =>
  simp only [adk]
  by_cases hh:e.hit 1 0=true
  ·rw [if_pos hh]; exact ⟨.same none (.inl (at6 h)),h0,trivial⟩
  ·rw [if_neg hh]; exact ⟨.same none (.inl (at6 h)),h0,trivial⟩
 | a1 =>
  simp only [adk]
  by_cases hh:e.hit 1 0=true
  ·rw [if_pos hh]; exact ⟨.same none (.inl (at6 h)),h0,trivial⟩
  ·rw [if_neg hh]; exact ⟨.same none (.inl (at6 h)),h0,trivial⟩
 | n2 =>
  simp only [adk]
  exact .ite (fun _ =>⟨.same none (.inl ((Qt.lk h).em hz (by omega))),h0,trivial⟩) fun _ =>⟨.same none (.inl (.lk h)),h0,trivial⟩
 | n3 =>
  simp only [adk]
  refine .ite (fun hn =>?_) fun _ =>⟨.al ((aCI h).1.em hz (by omega)),h0,trivial⟩
  have hn:TOk c (wi (e.gt 0)):=by unfold IsT at hn; rw [h.cc] at hn; exact hn
  have hp:0<(e.m.cells.length:Int):=by
   have:=ahD h.d
   have h4:=h.d.h
   have h5:=h.d.t
   rw [hl]; unfold aa9; omega
  exact ⟨.al1 _ ((aCI h).2 hp).pr hn hs,h0,hn⟩
 | n4 =>
  have h1:TOk c id:=h1
  have hl2:=h.d.l
  have e1:wu (abf c.subs i).level=(abf c.subs i).level:=ae9 (by omega)
  simp only [adk]
  rw [h.l,e1]
  refine ⟨.w0 _ _ (aGd h h1 hs ?_),h0,h1⟩
  have e2:=aft h.d (t:=id) (f:=1) (by omega)
  show aeH (aaE c) id 1<_
  have h1:0≤id∧id<c.tasks:=h1
  rw [e2,if_pos h1,hl]
  unfold aa9
  omega
 | n5 =>
  simp only [adk]
  rw [h.l]
  exact ⟨.same _ (.inl (.fr h (aoO h.d) (aho _))),h0,h1⟩
 | n6 =>
  have h1:TOk c id:=h1
  have:=awS (d:=(abf c.subs i).deadline) h h1 .l1 trivial
  simp only [adk]
  revert this
  rcases abq (abf c.subs i).deadline id e .l1 with ⟨o,e'⟩
  intro this
  cases o with
  | go s =>exact ⟨.same _ (.inl this.1),h0,h1,this.2⟩
  | fin c0 v0 =>exact .ite (fun _ =>⟨.an _ _ (this.1.an (.inl rfl)),h0,trivial⟩) fun _ =>⟨.drop _ (.inl this.1),h0,trivial⟩
 | a6 s =>
  have h2:TOk c id:=h1.1
  have:=awS (d:=(abf c.subs i).deadline) h h2 s h1.2
  simp only [adk]
  revert this
  rcases abq (abf c.subs i).deadline id e s with ⟨o,e'⟩
  intro this
  cases o with
  | go s =>exact ⟨.same _ (.inl this.1),h0,h2,this.2⟩
  | fin c0 v0 =>exact .ite (fun _ =>⟨.an _ _ (this.1.an (.inl rfl)),h0,trivial⟩) fun _ =>⟨.drop _ (.inl this.1),h0,trivial⟩
 | n7 =>
  simp only [adk]
  rw [h.l]
  exact ⟨.same none (.inl (.fr h (agF h.d) (by omega))),h0,trivial⟩
 | n8 =>
  simp only [adk]
  exact .ite (fun _ =>⟨.same none (.inl (azB h)),h0,trivial⟩) fun _ =>az9 ⟨h0,by show i≤1000; omega⟩ (.same none (.inl (azB h)))
 | n9 =>
  have:=ath (w:=me) (v:=(abf c.subs i).level) h (.l1 0)
  simp only [adk]
  revert this
  rcases aev me (abf c.subs i).level e (.l1 0) with ⟨o,e'⟩
  intro this
  cases o with
  | go s =>exact ⟨.same none (.inl this),h0,trivial⟩
  | fin c0 v0 =>exact az9 ⟨h0,by show i≤1000; omega⟩ (.same none (.inl this))
 | a9 t =>
  have:=ath (w:=me) (v:=(abf c.subs i).level) h t
  simp only [adk]
  revert this
  rcases aev me (abf c.subs i).level e t with ⟨o,e'⟩
  intro this
  cases o with
  | go s =>exact ⟨.same none (.inl this),h0,trivial⟩
  | fin c0 v0 =>exact az9 ⟨h0,by show i≤1000; omega⟩ (.same none (.inl this))
end
theorem MI.ex {c:Cfg} {e:EnvP} (h:MI c e) {k:ClkV}:MI c { e with k:=k }:=⟨h.d,h.l,h.cc,h.ok⟩
theorem azv {c:Cfg} {a:Int}:(arh c).gt a=0:=by
 show (arh c).m.gt a=0
 unfold MemV.gt
 split
 ·rename_i h
  exact List.eq_of_mem_replicate (auF (α:=Int) (d:=(dfR 0:TR 0)) h)
 ·rfl
theorem aHe {c:Cfg} (h:DecOk c):MI c (arh c):=by
 refine ⟨h,rfl,rfl,fun a =>?_⟩
 rw [azv]
 have h1:=h.t
 have h2:=h.l
 have h3:=(asg h).2
 exact ⟨Int.le_refl 0,fun _ =>h3,fun _ =>by omega,fun _ =>by omega⟩
end
end Go.Proofs.YtdnimkpfgjcjeaaGreat
