/- The injector's heads and slots: the machines that leave them alone; events that change no queue. The injector's memory: what Insert and Remove do with the heap in its slots. The injector's lock and its heap: what a step of a worker or of the client does with them. Who has a task,and what its cells say: what holds between steps,and how a step keeps it. No program occurs here. What a step leaves of the tasks' states: the machines that change none. Who has a task,in the program's memory: single changes of the cells,the records and the events. Who has a task,in the program's memory: what each line that touches a task does. Who has a task: Run,a worker,the client. Who has a task: what holds of an engine between its entries. The injector's lock,its heap and the queue of the events,as an invariant of an engine. -/
import Derived.Test.YtdnimkpfgjcjeaaGreatEzap
set_option linter.all false
namespace Go.Proofs.YtdnimkpfgjcjeaaGreat
section
open Go Go.RowKit
set_option maxRecDepth 100000
variable [Tb]
structure Qz (c:Cfg) (e e':EnvP):Prop where
 g:∀ b,1≤b→b<4+c.heap→e'.gt b=e.gt b
 ev:∃ l,e'.evs=e.evs++l∧∀ x∈l,3≤x.kind∧x.kind≠13
def Nh (c:Cfg) (a:Int):Prop:=ckC c a≠1∧ckC c a≠2
theorem aIN {c:Cfg} {a b:Int} (h:Nh c a) (hb:1≤b∧b<4+c.heap):b≠a:=fun e =>by
 subst e
 obtain ⟨h1,h2⟩:=h
 unfold ckC at h1 h2
 rw [if_neg (by omega),if_neg (by omega)] at h1 h2
 by_cases h4:b<4
 ·rw [if_pos h4] at h1; exact h1 rfl
 ·rw [if_neg h4,if_pos hb.2] at h2; exact h2 rfl
section
variable {c:Cfg} {e e':EnvP} {a v k o w x u:Int}
theorem Qz.refl:Qz c e e:=⟨fun _ _ _ =>rfl,[],by simp,fun x hx =>by cases hx⟩
theorem Qz.lk:Qz c e (e.lk a):=⟨fun _ _ _ =>akE,[],by show e.evs=_; simp,fun x hx =>by cases hx⟩
theorem Qz.wr (_:DecOk c) (ha:Nh c a):Qz c e (e.pt k a v):=⟨fun b h1 h2 =>by rw [ae4,if_neg (fun h =>aIN ha ⟨h1,h2⟩ h.1)],[],by show e.evs=_; simp,fun x hx =>by cases hx⟩
theorem Qz.cas (h:DecOk c) (ha:Nh c a):Qz c e (e.cas a o v):=Qz.wr h ha
theorem Qz.em {t l:Int} (h:Qz c e e') (hk:3≤k∧k≠13):Qz c e (e'.em k w t o l):=by
 obtain ⟨m,hm,hp⟩:=h.ev
 refine ⟨h.g,m++[⟨k,w,t,o,l⟩],by show e'.evs++[_]=_; rw [hm,List.append_assoc],fun x hx =>?_⟩
 rcases List.mem_append.1 hx with hx | hx
 ·exact hp x hx
 ·rw [List.mem_singleton.1 hx]; exact hk
theorem Qz.pr {t:Int} {r:RecP} (h:Qz c e e'):Qz c e (e'.pr t r):=⟨h.g,h.ev⟩
theorem aC8 (h:DecOk c) (w v:Int):Nh c (aax (aaE c) w v).top:=by
 unfold Nh
 have h3:=h.q
 rcases agU h w v with e | ⟨k,h1,h2,e⟩<;>rw [e]
 ·rw [agd]; omega
 ·have:=aus h ⟨h1,h2⟩ (j:=0) (by omega)
  rw [Int.add_zero,if_pos (by omega)] at this
  show ckC c ((aaE c).queues+k*(2+c.deque))≠1∧ckC c ((aaE c).queues+k*(2+c.deque))≠2
  omega
theorem amo (h:DecOk c) (w v:Int):Nh c (aax (aaE c) w v).bottom:=by
 unfold Nh
 have h3:=h.q
 rcases agU h w v with e | ⟨k,h1,h2,e⟩<;>rw [e]
 ·rw [agd]; omega
 ·have:=aus h ⟨h1,h2⟩ (j:=1) (by omega)
  rw [if_pos (by omega)] at this
  show ckC c ((aaE c).queues+k*(2+c.deque)+1)≠1∧ckC c ((aaE c).queues+k*(2+c.deque)+1)≠2
  omega
theorem aE3 (h:DecOk c) (w v:Int) {b:Int} (hb:0≤b):Nh c (ag9 (aax (aaE c) w v) b):=by unfold Nh; have:=aoV h w v hb; omega
theorem ap4 (h:DecOk c) {w:Int}:Nh c (aaN (aaE c) w):=by unfold Nh; have:=auA h (w:=w); omega
theorem aB6 (h:DecOk c) {w:Int}:Nh c (ago (aaE c) w):=by unfold Nh; have:=axg h (w:=w); omega
theorem ann (h:DecOk c) {t f:Int} (hf:0≤f∧f<5):Nh c (aeH (aaE c) t f):=by
 unfold Nh
 rw [aoU h hf]
 repeat' split
 all_goals omega
theorem agE (h:DecOk c) {t:Int}:Nh c (adr (aaE c) t):=ann h (by omega)
theorem aki (h:DecOk c) {t:Int}:Nh c (abX (aaE c) t):=ann h (by omega)
theorem ass (h:DecOk c) {t:Int}:Nh c (ag3 (aaE c) t):=ann h (by omega)
theorem aso (h:DecOk c) {t:Int}:Nh c (afJ (aaE c) t):=ann h (by omega)
theorem asr (h:DecOk c) {t:Int}:Nh c (akL (aaE c) t):=ann h (by omega)
theorem asq (h:MI c e):Nh c (ahG w e):=by unfold Nh; have:=atr (w:=w) h; omega
theorem aE2 {j:Int} (h:MI c e):Nh c (amJ v j e):=by unfold Nh; have:=av1 (v:=v) (j:=j) h; omega
theorem aE4 (h:DecOk c):Nh c 0:=by unfold Nh; rw [afB]; omega
theorem aEy (h:MI c e) (s:OPushS) (hs:anI s):Qz c e (afc (aax (aaE c) w v) x e s).2:=by
 cases s with
 | l1 =>exact .lk
 | l2 b =>exact .lk
 | l3 b =>exact .wr h.d (aE3 h.d _ _ hs)
 | l4 b =>exact .wr h.d (amo h.d _ _)
theorem aGN (h:MI c e) (s:OPopS):Qz c e (aom (aax (aaE c) w v) e s).2:=by
 cases s with
 | l1 =>exact .lk
 | l2 b =>exact .lk
 | l3 b t =>exact .wr h.d (amo h.d _ _)
 | l4 b t =>exact .lk
 | l5 b t =>exact .lk
 | l6 b t =>exact .cas h.d (aC8 h.d _ _)
 | l7 b t =>exact .wr h.d (amo h.d _ _)
 | l8 b t =>exact .lk
 | l9 b t =>exact .wr h.d (amo h.d _ _)
theorem aDJ (h:MI c e) (s:StealS):Qz c e (aiS (aax (aaE c) w v) e s).2:=by
 cases s with
 | l1 =>exact .lk
 | l2 b =>exact .lk
 | l3 t =>exact .lk
 | l4 t u =>exact .cas h.d (aC8 h.d _ _)
theorem ayz {a b:Int} (h:MI c e) (s:ResetS):Qz c e (agm (aaN (aaE c) a) b (aax (aaE c) w v) e s).2:=by
 cases s with
 | l1 =>exact .wr h.d (ap4 h.d)
 | l2 =>exact .lk
 | l3 x =>exact .lk
 | l4 x =>exact .wr h.d (ap4 h.d)
theorem aqo {t:Int} (h:MI c e):Qz c e (ah7 w t e):=by
 unfold ah7
 rw [h.l]
 split
 ·split
  ·exact (Qz.cas h.d (agE h.d)).em (by omega)
  ·exact (Qz.cas h.d (agE h.d)).pr.em (by omega)
 ·exact (Qz.cas h.d (agE h.d)).em (by omega)
theorem aDQ (h:MI c e) (s:SleepS):Qz c e (agk w e s).2:=by
 cases s with
 | l1 =>exact .lk
 | l2 ep =>exact .wr h.d (asq h)
 | l3 ep =>exact .lk
 | l4 ep v =>
  simp only [agk]
  split
  ·exact .lk
  ·split
   ·exact Qz.lk.em (by omega)
   ·exact .lk
 | l5 ep v s =>
  simp only [agk]
  split
  ·exact Qz.lk.em (by omega)
  ·split
   ·exact Qz.lk.em (by omega)
   ·exact .lk
 | l6 _ _ _ =>exact .wr h.d (asq h)
 | l7 _ _ _ =>exact .wr h.d (asq h)
theorem ati (h:MI c e) (s:WakeS):Qz c e (aev w v e s).2:=by
 cases s with
 | l1 j =>exact .lk
 | l2 j x =>exact .wr h.d (aE2 h)
 | l3 j x =>
  show Qz c e ((e.pt 6 (ago e.l x) _).em 18 w 0 x 0)
  rw [h.l]
  exact (Qz.wr h.d (aB6 h.d)).em (by omega)
theorem aEn (s:ProbeS):Qz c e (akP w e s).2:=by
 have g:∀ s i bm,Qz c e (aiW w e s i bm).2:=fun s i bm =>by
  unfold aiW
  split
  ·exact .refl
  ·simp only
   split
   ·exact .lk
   ·exact .lk
 cases s with
 | new =>exact g _ _ _
 | run s i bm =>exact g _ _ _
theorem aEh {t:Int} (h:MI c e) (s:RaiseS):Qz c e (aew w t v e s).2:=by
 unfold aew
 rw [h.l]
 split
 ·exact .refl
 ·cases s with
  | l1 q =>exact .lk
  | l2 q =>
   simp only
   split
   ·exact (Qz.cas h.d (aki h.d)).em (by omega)
   ·exact .cas h.d (aki h.d)
theorem apP (h:MI c e) (s:LPushS) (hs:aiQ s):Qz c e (ace w v x e s).2:=by
 have g:∀ s,anI s→Qz c e (match afc (aax e.l w v) x e s with
   | (.go s,e') =>(Rs.go (LPushS.push s),e')
   | (.fin c _,e') =>(if c=3 then .fin 3 0 else .go .set,e')).2:=fun s hs =>by
  have:=aEy (w:=w) (v:=v) (x:=x) h s hs
  rw [h.l]
  revert this
  rcases afc (aax (aaE c) w v) x e s with ⟨r,e'⟩
  intro this
  cases r<;>exact this
 cases s with
 | new =>exact g .l1 trivial
 | push s =>exact g _ hs
 | set =>
  show Qz c e (aFO (aaN e.l w) v e)
  rw [h.l]
  exact .wr h.d (ap4 h.d)
theorem aHi (h:MI c e) (s:LPopS):Qz c e (ahU w e s).2:=by
 cases s with
 | l1 v =>exact .lk
 | l2 v s =>
  have:=aGN (w:=w) (v:=v) h s
  simp only [ahU]
  rw [h.l]
  revert this
  rcases aom (aax (aaE c) w v) e s with ⟨r,e'⟩
  intro this
  cases r<;>exact this
 | l3 v s =>
  have:=ayz (w:=w) (v:=v) (a:=w) (b:=v) h s
  simp only [ahU]
  rw [h.l]
  revert this
  rcases agm (aaN (aaE c) w) v (aax (aaE c) w v) e s with ⟨r,e'⟩
  intro this
  cases r<;>exact this
theorem aGc (h:MI c e) (s:WalkS) (hs:aqB c v s):Qz c e (af8 w v e s).2:=by
 have g:∀ t s,Qz c e (match aew w t v e s with
   | (.go s,e') =>(Rs.go (WalkS.raise t s),e')
   | (.fin c _,e') =>(.go (if c=1 then .l2 t else .l4 t),e')).2:=fun t s =>by
  have:=aEh (w:=w) (v:=v) (t:=t) h s
  revert this
  rcases aew w t v e s with ⟨r,e'⟩
  intro this
  cases r<;>exact this
 cases s with
 | l1 t =>
  simp only [af8]
  split
  ·exact .refl
  ·exact g t _
 | raise t s =>exact g t s
 | l2 t =>exact .lk
 | push t s =>
  have:=apP (w:=w) (v:=v) (x:=t) h s hs.2
  simp only [af8]
  revert this
  rcases ace w v t e s with ⟨r,e'⟩
  intro this
  cases r with
  | go s =>exact this
  | fin c0 v0 =>
   show Qz c e (if c0=3 then e'.em 19 w t 0 v else e')
   split
   ·exact this.em (by omega)
   ·exact this
 | l4 t =>exact .lk
theorem aFr {t:Int} (h:MI c e) (s:EnterS) (hs:as8 s):Qz c e (adZ w t e s).2:=by
 cases s with
 | l1 =>
  simp only [adZ]
  rw [h.l]
  split
  ·exact .refl
  ·exact .wr h.d (asr h.d)
 | l2 =>
  simp only [adZ]
  rw [h.l]
  exact .wr h.d (agE h.d)
 | l3 =>exact .lk
 | l4 v s =>
  have:=apP (w:=w) (v:=v) (x:=t) h s hs
  simp only [adZ]
  revert this
  rcases ace w v t e s with ⟨r,e'⟩
  intro this
  cases r<;>exact this
theorem aDw {t:Int} (h:MI c e) (s:SweepS) (hs:as5 c s):Qz c e (abA w t e s).2:=by
 cases s with
 | l1 =>
  simp only [abA]
  split
  ·exact .refl
  ·exact .lk
 | l2 =>exact .lk
 | l3 =>exact .lk
 | l4 q =>
  simp only [abA]
  rw [h.l]
  split
  ·exact (Qz.cas h.d (aki h.d)).em (by omega)
  ·exact .cas h.d (aki h.d)
 | l5 q =>
  simp only [abA]
  rw [h.l]
  exact .wr h.d (asr h.d)
 | l6 q s =>
  have:=apP (w:=w) (v:=wi (wi q+1)) (x:=t) h s hs
  simp only [abA]
  revert this
  rcases ace w (wi (wi q+1)) t e s with ⟨r,e'⟩
  intro this
  cases r with
  | go s =>exact this
  | fin c0 v0 =>
   show Qz c e (if c0=3 then e'.em 19 w t 0 _ else e')
   split
   ·exact this.em (by omega)
   ·exact this
theorem aGj (h:MI c e) (s:TakeS):Qz c e (ak0 w e s).2:=by
 cases s with
 | pop s =>
  have:=aHi (w:=w) h s
  simp only [ak0]
  revert this
  rcases ahU w e s with ⟨o,e'⟩
  intro this
  cases o<;>exact this
 | claim t =>exact aqo h
theorem ap1 {P:Prop} [Decidable P] {α:Type} {a b:α×EnvP} (h1:P→Qz c e a.2) (h2:¬ P→Qz c e b.2):Qz c e (if P then a else b).2:=by
 split
 ·exact h1 ‹_›
 ·exact h2 ‹_›
theorem asf {r:RunS} (h:Qz c e e'):Qz c e (ahW r e').2:=h
theorem as1 (h:DecOk c):Qz c e (aff e):=.wr h (aE4 h)
theorem aHb {t:Int} {r:RunS} (h:MI c e):Qz c e (at3 w e r t (e.rc t) (e.prog (e.rc t))).2:=by
 unfold at3
 rw [h.l]
 refine ap1 (fun _ =>(Qz.wr h.d (aso h.d)).pr) fun _ =>ap1 (fun _ =>.wr h.d (agE h.d)) fun _ =>ap1 (fun _ =>Qz.refl.pr) fun _ =>ap1 (fun _ =>ap1 (fun _ =>(as1 h.d).pr.pr) fun _ =>(as1 h.d).pr.em (by omega)) fun _ =>ap1 (fun _ =>Qz.refl.pr) fun _ =>(Qz.wr h.d (aso h.d)).pr
theorem aIC {r:RunS} (h:MI c e) (hr:aF2 c r):Qz c e (au2 w e r).2:=by
 unfold au2
 refine ap1 (fun _ =>.refl) fun _ =>?_
 obtain ⟨stack,id,child,level,waiter,k⟩:=r
 cases k with
 | next =>exact aHb h
 | s2 s =>
  simp only [afZ,afx]
  rw [h.l]
  by_cases hi:¬ IsT e id
  ·rw [if_pos hi]; exact Qz.refl.em (by omega)
  ·rw [if_neg hi]
   cases s with
   | l1 =>exact .wr h.d (aki h.d)
   | l2 =>exact .wr h.d (asr h.d)
   | l3 =>exact (Qz.wr h.d (agE h.d)).em (by omega)
 | s3 s =>
  have:=apP (w:=w) (v:=level) (x:=id) h s hr.2
  simp only [afZ]
  revert this
  rcases ace w level id e s with ⟨o,e'⟩
  intro this
  cases o<;>exact this
 | s4 s =>
  have:=ati (w:=w) (v:=level) h s
  simp only [afZ]
  revert this
  rcases aev w level e s with ⟨o,e'⟩
  intro this
  cases o<;>exact this
 | s5 =>exact aqo h
 | j2 =>
  simp only [afZ]
  rw [h.l]
  exact .wr h.d (agE h.d)
 | j3 =>
  simp only [afZ]
  rw [h.l]
  exact ap1 (fun _ =>(Qz.cas h.d (ass h.d)).em (by omega)) fun _ =>.cas h.d (ass h.d)
 | j4 =>exact .lk
 | j5 s =>
  have:=aGc (w:=w) (v:=level) h s hr
  simp only [afZ]
  revert this
  rcases af8 w level e s with ⟨o,e'⟩
  intro this
  cases o with
  | go s =>exact this
  | fin c0 v0 =>exact asf (this.em (by omega))
 | j6 =>
  simp only [afZ]
  rw [h.l]
  exact .wr h.d (agE h.d)
 | j7 =>
  simp only [afZ]
  rw [h.l]
  exact (Qz.wr h.d (aso h.d)).pr.em (by omega)
 | f2 =>
  simp only [afZ]
  rw [h.l]
  exact ap1 (fun _ =>asf ((Qz.cas h.d (ass h.d)).em (by omega))) fun _ =>(Qz.cas h.d (ass h.d)).em (by omega)
 | f3 =>
  simp only [afZ]
  exact ap1 (fun _ =>.lk) fun _ =>asf .lk
 | f4 s =>
  have:=aFr (w:=w) (t:=waiter) h s hr.2
  simp only [afZ]
  revert this
  rcases adZ w waiter e s with ⟨o,e'⟩
  intro this
  cases o<;>exact this
 | f5 v s =>
  have:=ati (w:=w) (v:=v) h s
  simp only [afZ]
  revert this
  rcases aev w v e s with ⟨o,e'⟩
  intro this
  cases o<;>exact this
 | f6 =>
  simp only [afZ]
  exact ap1 (fun _ =>aqo h) fun _ =>asf (aqo h)
end
structure IV where
 g:Nat→Int
 s:Int
 r:Int
def slG (c:Cfg) (e:EnvP):Nat→Int:=fun j =>if (j:Int)<c.heap then e.gt (4+(j:Int)) else 0
def ivE (c:Cfg) (e:EnvP):IV:=⟨slG c e,e.gt 2,e.gt 3⟩
structure RestV (c:Cfg) (v:IV) (q:List QK) (a:Int):Prop where
 sq:SQ q a
 r:v.r=a
 n:v.s=(q.length:Int)
 h:(q.length:Int)≤c.heap
 hp:anJ v.g q.length
 ct:∀ x,ali v.g x q.length=aqD x q
structure UpV (c:Cfg) (v:IV) (q:List QK) (a:Int) (K:QK) (n:Int) (i:Nat):Prop where
 sq:SQ q a
 r:v.r=a+1
 n:v.s=(q.length:Int)∧n=(q.length:Int)
 h:(q.length:Int)<c.heap
 up:UpF v.g i (q.length+1) (pkV K)
 ct:∀ x,ali (aoC v.g i (pkV K)) x (q.length+1)=aqD x q+if pkV K=x then 1 else 0
structure DownV (c:Cfg) (v:IV) (q:List QK) (a n:Int) (i:Nat) (y:Int):Prop where
 sq:SQ q a
 r:v.r=a
 n:v.s=(q.length:Int)∧n=(q.length:Int)+1
 h:(q.length:Int)≤c.heap
 dn:DownF v.g i q.length y
 ct:∀ x,ali (aoC v.g i y) x q.length=aqD x q
def aH5 (c:Cfg) (v:IV) (q:List QK) (a:Int) (K:QK):InsertS→Prop
 | .l1 =>RestV c v q a∧v.s<c.heap
 | .l2 m =>RestV c v q a∧v.s=m∧m<c.heap
 | .l3 m i k _ =>k=pkV K∧∃ j:Nat,i=(j:Int)∧1≤j∧UpV c v q a K m j
 | .l4 m i k x =>k=pkV K∧∃ j:Nat,i=(j:Int)∧1≤j∧UpV c v q a K m j∧x=v.g ((j-1) / 2)∧k<x
 | .l5 m i k _ =>k=pkV K∧∃ j:Nat,i=(j:Int)∧UpV c v q a K m j∧(1≤j→v.g ((j-1) / 2)≤k)
 | .l6 m _ k _ =>k=pkV K∧m=(q.length:Int)∧SQ q a∧v.r=a+1∧(q.length:Int)<c.heap∧anJ v.g (q.length+1)∧∀ x,ali v.g x (q.length+1)=aqD x q+if pkV K=x then 1 else 0
def aFK (c:Cfg) (v:IV) (q:List QK) (a:Int):RemoveS→Prop
 | .l1 =>RestV c v q a
 | .l2 n =>RestV c v q a∧v.s=n∧1≤n
 | .l3 n x =>RestV c v q a∧v.s=n∧1≤n∧x=v.g 0
 | .l4 n x y =>RestV c v q a∧v.s=n∧1≤n∧x=v.g 0∧y=v.g (q.length-1)
 | .l5 n i _ _ y _ =>∃ j:Nat,i=(j:Int)∧DownV c v q a n j y∧2*j+1<q.length
 | .l6 n i c0 _ y z =>∃ j:Nat,i=(j:Int)∧DownV c v q a n j y∧c0=((2*j+1:Nat):Int)∧2*j+2<q.length∧z=v.g (2*j+1)
 | .l7 n i c0 _ y z =>∃ j b:Nat,i=(j:Int)∧DownV c v q a n j y∧c0=(b:Int)∧1≤b∧b<q.length∧(b-1) / 2=j∧z=v.g b∧z<y∧∀ x,1≤x→x<q.length→(x-1) / 2=j→z≤v.g x
 | .l8 n i _ _ y _ =>∃ j:Nat,i=(j:Int)∧DownV c v q a n j y∧∀ x,1≤x→x<q.length→(x-1) / 2=j→y≤v.g x
section
variable {c:Cfg} {e e':EnvP} {q:List QK} {a w n:Int} {v:IV}
theorem RestV.head (h:RestV c v q a) (hn:1≤v.s):∃ k l,q=k::l∧pkV k=v.g 0:=by
 have hl:=h.n
 cases q with
 | nil =>rw [hl] at hn; simp at hn
 | cons k l =>
  refine ⟨k,l,rfl,?_⟩
  have p1:0<ali v.g (pkV k) (k::l).length:=by rw [h.ct]; exact asK List.mem_cons_self
  obtain ⟨j,j1,j2⟩:=asL p1
  have m1:=h.hp.min j j1
  have p2:0<aqD (v.g 0) (k::l):=by rw [← h.ct]; exact axa (j:=0) (by simp) rfl
  obtain ⟨x,x1,x2⟩:=aw9 p2
  have m2:pkV k≤pkV x:=by
   rcases List.mem_cons.1 x1 with x1 | x1
   ·rw [x1]; exact Int.le_refl _
   ·exact Int.le_of_lt (h.sq.lt x1)
  omega
theorem aig {i:Int} (hi:0≤i∧i<c.heap) (h8:c.heap≤1000):aeo (aaE c) i=4+i:=by
 show atP i c.heap 4 1=_
 unfold atP
 rw [if_neg (by omega),if_neg (by omega),Int.mul_one,aaw (x:=i) (aai (by omega))]
 exact aaw (aai (by omega))
theorem aqU {j:Nat} (hj:(j:Int)<c.heap):slG c e j=e.gt (4+(j:Int)):=if_pos hj
theorem aoq {b:Int}:ivE c (e.lk b)=ivE c e:=by
 unfold ivE slG
 simp only [akE]
theorem aHo {k x t o l:Int}:ivE c (e.em k x t o l)=ivE c e:=rfl
theorem asi {j:Nat} {x:Int} (hj:(j:Int)<c.heap) (hl:4+c.heap≤(e.m.cells.length:Int)):ivE c (e.pt 2 (4+(j:Int)) x)={ ivE c e with g:=aoC (slG c e) j x }:=by
 have g:slG c (e.pt 2 (4+(j:Int)) x)=aoC (slG c e) j x:=by
  funext i
  by_cases hi:i=j
  ·subst hi
   show (if (i:Int)<c.heap then (e.pt 2 (4+(i:Int)) x).gt (4+(i:Int)) else 0)=if i=i then x else _
   rw [if_pos hj,ae4,if_pos (by omega),if_pos rfl]
  ·show (if (i:Int)<c.heap then (e.pt 2 (4+(j:Int)) x).gt (4+(i:Int)) else 0)=if i=j then x else (if (i:Int)<c.heap then e.gt (4+(i:Int)) else 0)
   rw [if_neg hi]
   split
   ·rw [ae4,if_neg (by omega)]
   ·rfl
 show (⟨slG c (e.pt 2 (4+(j:Int)) x),(e.pt 2 (4+(j:Int)) x).gt 2,(e.pt 2 (4+(j:Int)) x).gt 3⟩:IV)=⟨aoC (slG c e) j x,e.gt 2,e.gt 3⟩
 rw [g,ae4,if_neg (by omega),ae4,if_neg (by omega)]
theorem aCT {k b x:Int} (hb:b<4):slG c (e.pt k b x)=slG c e:=by
 funext i
 show (if (i:Int)<c.heap then (e.pt k b x).gt (4+(i:Int)) else 0)=(if (i:Int)<c.heap then e.gt (4+(i:Int)) else 0)
 split
 ·rw [ae4,if_neg (by omega)]
 ·rfl
theorem azn {x:Int} (hl:4+c.heap≤(e.m.cells.length:Int)) (h1:1≤c.heap):ivE c (e.pt 2 2 x)={ ivE c e with s:=x }:=by
 show (⟨slG c (e.pt 2 2 x),(e.pt 2 2 x).gt 2,(e.pt 2 2 x).gt 3⟩:IV)=⟨slG c e,x,e.gt 3⟩
 rw [aCT (by omega),ae4,if_pos (by omega),ae4,if_neg (by omega)]
theorem aHp {x:Int} (hl:4+c.heap≤(e.m.cells.length:Int)) (h1:1≤c.heap):ivE c (e.pt 6 3 x)={ ivE c e with r:=x }:=by
 show (⟨slG c (e.pt 6 3 x),(e.pt 6 3 x).gt 2,(e.pt 6 3 x).gt 3⟩:IV)=⟨slG c e,e.gt 2,x⟩
 rw [aCT (by omega),ae4,if_neg (by omega),ae4,if_pos (by omega)]
theorem aEN (h:MI c e) (hn:(e.m.cells.length:Int)=aa9 c):4+c.heap≤(e.m.cells.length:Int):=by
 have:=ahD h.d
 have h4:=h.d.h
 have h5:=h.d.t
 have:aa9 c=(aaE c).table+5*c.tasks:=rfl
 omega
theorem aGf {j:Nat} (h1:1≤j) (h2:j≤1000):upP (j:Int)=(((j-1) / 2:Nat):Int):=by
 unfold upP
 rw [aaw (x:=(j:Int)-1) (aai (by omega)),Int.tdiv_eq_ediv_of_nonneg (by omega)]
 have:((j:Int)-1) / 2=(((j-1) / 2:Nat):Int):=by omega
 rw [this]
 exact aaw (aai (by omega))
theorem ayK {K:QK} {m:Int} {j:Nat} {x:Int} (h:UpV c v q a K m j):aH5 c v q a K (apz m (j:Int) (pkV K) x):=by
 unfold apz
 split
 ·exact ⟨rfl,j,rfl,by omega,h⟩
 ·exact ⟨rfl,j,rfl,h,fun k =>by omega⟩
theorem aIZ (h:MI c e) (hn:(e.m.cells.length:Int)=aa9 c) {K:QK} (hK:(0≤K.d∧K.d≤1000)∧K.a=a∧0≤K.t∧K.t≤65535) (ha:0≤a∧a≤1000000) {s:InsertS} (hp:aH5 c (ivE c e) q a K s) :
  match abq K.d K.t e s with
  | (.go s',e') =>e'.evs=e.evs∧aH5 c (ivE c e') q a K s'
  | (.fin c0 _,e') =>c0=0∧e'.evs=e.evs∧RestV c (ivE c e') (aue K q) (a+1):=by
 have h4:=h.d.h
 have hl:=aEN h hn
 cases s with
 | l1 =>
  obtain ⟨h1,h2⟩:=hp
  have e2:e.gt 2=(q.length:Int):=h1.n
  have h2:e.gt 2<c.heap:=h2
  have ew:wi (e.gt 2)=e.gt 2:=aaw (aai (by omega))
  simp only [abq]
  rw [h.cc,ew,if_neg (by omega)]
  refine ⟨rfl,?_⟩
  rw [aoq]
  exact ⟨h1,rfl,h2⟩
 | l2 m =>
  obtain ⟨h1,h2,h3⟩:=hp
  have e2:e.gt 2=(q.length:Int):=h1.n
  have h2:e.gt 2=m:=h2
  have e3:e.gt 3=a:=h1.r
  have ew:wi (e.gt 3)=K.a:=by rw [e3,hK.2.1]; exact aaw (aai (by omega))
  have hp:alU K.d K.a K.t=(pkV K,true):=aBw (by omega)
  simp only [abq]
  rw [ew,hp,if_pos rfl]
  refine ⟨rfl,?_⟩
  have er:wu (e.gt 3+1)=a+1:=by rw [e3]; exact ae9 (by omega)
  rw [er,aHp hl (by omega)]
  have em:m=(q.length:Int):=by omega
  rw [em]
  refine ayK ⟨h1.sq,rfl,⟨h1.n,rfl⟩,by omega,UpF.start h1.hp,fun x =>?_⟩
  have:=avJ (g:=aoC (slG c e) q.length (pkV K)) (h:=slG c e) (x:=x) (n:=q.length) fun j hj =>ad4 (by omega)
  show ali (aoC (slG c e) q.length (pkV K)) x (q.length+1)=_
  unfold ali
  rw [ad3,this]
  have:=h1.ct x
  show ali (slG c e) x q.length+_=_
  rw [show ali (slG c e) x q.length=aqD x q from this]
 | l3 m i k x =>
  obtain ⟨rfl,j,rfl,h1,h2⟩:=hp
  have hb:=h2.up.b
  have hh:=h2.h
  have hj:(((j-1) / 2:Nat):Int)<c.heap:=by omega
  simp only [abq]
  rw [h.l,aGf h1 (by omega),aig ⟨by omega,hj⟩ (by omega)]
  have eg:e.gt (4+(((j-1) / 2:Nat):Int))=slG c e ((j-1) / 2):=(aqU hj).symm
  rw [eg]
  by_cases hk:pkV K<slG c e ((j-1) / 2)
  ·rw [if_pos hk]
   refine ⟨rfl,?_⟩
   rw [aoq]
   exact ⟨rfl,j,rfl,h1,h2,rfl,hk⟩
  ·rw [if_neg hk]
   refine ⟨rfl,?_⟩
   rw [aoq]
   exact ⟨rfl,j,rfl,h2,fun _ =>by show slG c e ((j-1) / 2)≤_; omega⟩
 | l4 m i k x =>
  obtain ⟨rfl,j,rfl,h1,h2,rfl,h3⟩:=hp
  have hb:=h2.up.b
  have hh:=h2.h
  have hj:(j:Int)<c.heap:=by omega
  simp only [abq]
  rw [h.l,aGf h1 (by omega),aig ⟨by omega,hj⟩ (by omega)]
  refine ⟨rfl,?_⟩
  rw [asi hj hl]
  refine ayK ⟨h2.sq,h2.r,h2.n,hh,h2.up.step h1 h3,fun x =>?_⟩
  have c1:=ahk (g:=slG c e) (x:=x) (v:=pkV K) (i:=j) (n:=q.length+1) hb
  have c2:=ahk (g:=slG c e) (x:=x) (v:=slG c e ((j-1) / 2)) (i:=j) (n:=q.length+1) hb
  have c3:=ahk (g:=aoC (slG c e) j (slG c e ((j-1) / 2))) (x:=x) (v:=pkV K) (i:=(j-1) / 2) (n:=q.length+1) (by omega)
  rw [ad4 (g:=slG c e) (i:=j) (j:=(j-1) / 2) (by omega)] at c3
  have c4:=h2.ct x
  show ali (aoC (aoC (slG c e) j (slG c e ((j-1) / 2))) ((j-1) / 2) (pkV K)) x (q.length+1)=_
  have c4:ali (aoC (slG c e) j (pkV K)) x (q.length+1)=aqD x q+if pkV K=x then 1 else 0:=c4
  omega
 | l5 m i k x =>
  obtain ⟨rfl,j,rfl,h2,h3⟩:=hp
  have hb:=h2.up.b
  have hh:=h2.h
  have hj:(j:Int)<c.heap:=by omega
  simp only [abq]
  rw [h.l,aig ⟨by omega,hj⟩ (by omega)]
  refine ⟨rfl,?_⟩
  rw [asi hj hl]
  exact ⟨rfl,h2.n.2,h2.sq,h2.r,hh,h2.up.fill h3,h2.ct⟩
 | l6 m i k x =>
  obtain ⟨rfl,rfl,h1,h2,h3,h5,h6⟩:=hp
  simp only [abq]
  refine ⟨by trivial,rfl,?_⟩
  have es:wu (wi ((q.length:Int)+1))=((aue K q).length:Int):=by
   rw [aix,aaw (aai (by omega)),ae9 (by omega)]
   omega
  rw [es,azn hl (by omega)]
  refine ⟨h1.ins (by omega) ⟨hK.1,hK.2.1,hK.2.2⟩ ha.1,h2,rfl,by rw [aix]; omega,?_,fun x =>?_⟩
  ·rw [aix]; exact h5
  ·rw [aix,awV]; exact h6 x
theorem aAf {j:Nat} {y c0 x z:Int} (h:DownV c v q a n j y) (h8:c.heap≤1000):aFK c v q a (aqr n (j:Int) c0 x y z):=by
 have hb:=h.dn.b
 have hh:=h.h
 have e1:wi (2*(j:Int))=2*(j:Int):=aaw (aai (by omega))
 have e2:wi (2*(j:Int)+1)=2*(j:Int)+1:=aaw (aai (by omega))
 have e3:wi (n-1)=(q.length:Int):=by rw [h.n.2]; exact (aaw (aai (by omega))).trans (by omega)
 unfold aqr
 rw [e1,e2,e3]
 split
 ·exact ⟨j,rfl,h,by omega⟩
 ·exact ⟨j,rfl,h,fun x _ _ _ =>by omega⟩
theorem azZ {j b:Nat} {y x:Int} (h:DownV c v q a n j y) (h1:1≤b) (h2:b<q.length) (h3:(b-1) / 2=j) (hm:∀ x,1≤x→x<q.length→(x-1) / 2=j→v.g b≤v.g x):aFK c v q a (auq n (j:Int) (b:Int) x y (v.g b)):=by
 unfold auq
 split
 ·rename_i hz
  exact ⟨j,b,rfl,h,rfl,h1,h2,h3,rfl,hz,hm⟩
 ·rename_i hz
  exact ⟨j,rfl,h,fun x a b d =>Int.le_trans (by omega) (hm x a b d)⟩
theorem aIE (h:MI c e) (hn:(e.m.cells.length:Int)=aa9 c) (ha:0≤a∧a≤1000000) (hr:akO c ([],0) e.evs=some (q,a)) {s:RemoveS} (hp:aFK c (ivE c e) q a s) :
  ∃ q',match aby w e s with
  | (.go s',e') =>akO c ([],0) e'.evs=some (q',a)∧aFK c (ivE c e') q' a s'
  | (.fin _ _,e') =>akO c ([],0) e'.evs=some (q',a)∧RestV c (ivE c e') q' a:=by
 have h4:=h.d.h
 have hl:=aEN h hn
 cases s with
 | l1 =>
  have h1:RestV c (ivE c e) q a:=hp
  have e2:e.gt 2=(q.length:Int):=h1.n
  have hh:=h1.h
  have ew:wi (e.gt 2)=e.gt 2:=aaw (aai (by omega))
  refine ⟨q,?_⟩
  simp only [aby]
  rw [ew]
  by_cases h0:e.gt 2≤0
  ·rw [if_pos h0]
   exact ⟨hr,by rw [aoq]; exact h1⟩
  ·rw [if_neg h0]
   exact ⟨hr,by rw [aoq]; exact ⟨h1,rfl,by omega⟩⟩
 | l2 m =>
  obtain ⟨h1,h2,h3⟩:=hp
  refine ⟨q,hr,?_⟩
  show aFK c (ivE c (e.lk _)) q a (.l3 m (e.gt (aeo e.l 0)))
  rw [aoq,h.l,aig ⟨by omega,by omega⟩ (by omega)]
  exact ⟨h1,h2,h3,(aqU (c:=c) (e:=e) (j:=0) (by omega)).symm⟩
 | l3 m x =>
  obtain ⟨h1,h2,h3,h5⟩:=hp
  have h2:e.gt 2=m:=h2
  have e2:e.gt 2=(q.length:Int):=h1.n
  have hh:=h1.h
  have em:wi (m-1)=((q.length-1:Nat):Int):=(aaw (aai (by omega))).trans (by omega)
  refine ⟨q,hr,?_⟩
  show aFK c (ivE c (e.lk _)) q a (.l4 m x (e.gt (aeo e.l (wi (m-1)))))
  rw [aoq,h.l,em,aig ⟨by omega,by omega⟩ (by omega)]
  exact ⟨h1,h2,h3,h5,(aqU (c:=c) (e:=e) (j:=q.length-1) (by omega)).symm⟩
 | l4 m x y =>
  obtain ⟨h1,h2,h3,rfl,rfl⟩:=hp
  obtain ⟨k,l,rfl,hk⟩:=h1.head (by rw [h2]; exact h3)
  have h2:e.gt 2=m:=h2
  have e2:e.gt 2=((k::l).length:Int):=h1.n
  have hh:=h1.h
  have hkr:=h1.sq.r k List.mem_cons_self
  rw [List.length_cons] at hh e2
  have et:apX ((ivE c e).g 0)=k.t:=by rw [← hk]; exact aEo (by omega)
  have es:wu (wi (m-1))=(l.length:Int):=by rw [aaw (aai (by omega)),ae9 (by omega)]; omega
  refine ⟨l,?_⟩
  simp only [aby]
  rw [et,es]
  have run:akO c ([],0) ((e.pt 2 2 (l.length:Int)).em 13 w k.t 0 0).evs=some (l,a):=by
   show akO c ([],0) (e.evs++[⟨13,w,k.t,0,0⟩])=_
   rw [aij,hr]
   show akO c (k::l,a) [_]=_
   rw [aoI]
   unfold ahS
   rw [if_neg (show ¬ (13:Int)=1 by decide),if_pos rfl]
   exact if_pos rfl
  have iv:ivE c ((e.pt 2 2 (l.length:Int)).em 13 w k.t 0 0)={ ivE c e with s:=(l.length:Int) }:=by rw [aHo,azn hl (by omega)]
  have hp:anJ (slG c e) l.length:=h1.hp.le (by simp)
  have cs:∀ x,ali (slG c e) x l.length+(if slG c e l.length=x then 1 else 0)=aqD x l+if pkV k=x then 1 else 0:=fun x =>h1.ct x
  have hk:pkV k=slG c e 0:=hk
  by_cases h0:m=1
  ·rw [if_pos h0]
   refine ⟨run,?_⟩
   rw [iv]
   have l0:l=[]:=List.length_eq_zero_iff.1 (by omega)
   subst l0
   exact ⟨h1.sq.tail,h1.r,rfl,by show (0:Int)≤_; omega,fun j _ b =>absurd b (Nat.not_lt_zero _),fun x =>rfl⟩
  ·rw [if_neg h0]
   refine ⟨run,?_⟩
   rw [iv]
   have ey:(ivE c e).g ((k::l).length-1)=slG c e l.length:=rfl
   rw [ey]
   have hd:DownV c { ivE c e with s:=(l.length:Int) } l a m 0 (slG c e l.length):=by
    refine ⟨h1.sq.tail,h1.r,⟨rfl,by omega⟩,by omega,DownF.start hp (by omega),fun x =>?_⟩
    have c1:=ahk (g:=slG c e) (x:=x) (v:=slG c e l.length) (i:=0) (n:=l.length) (by omega)
    have c2:=cs x
    rw [hk] at c2
    show ali (aoC (slG c e) 0 (slG c e l.length)) x l.length=_
    omega
   exact aAf (j:=0) hd (by omega)
 | l5 m i c0 x y z =>
  obtain ⟨j,rfl,h1,h2⟩:=hp
  have hh:=h1.h
  have e1:wi (2*(j:Int))=2*(j:Int):=aaw (aai (by omega))
  have e2:wi (2*(j:Int)+1)=((2*j+1:Nat):Int):=(aaw (aai (by omega))).trans (by omega)
  have e3:wi (m-1)=(q.length:Int):=by rw [h1.n.2]; exact (aaw (aai (by omega))).trans (by omega)
  have e5:wi (((2*j+1:Nat):Int)+1)=((2*j+2:Nat):Int):=(aaw (aai (by omega))).trans (by omega)
  refine ⟨q,?_⟩
  simp only [aby]
  rw [h.l,e1,e2,e3,e5,aig (i:=((2*j+1:Nat):Int)) ⟨by omega,by omega⟩ (by omega),← aqU (c:=c) (e:=e) (j:=2*j+1) (by omega)]
  by_cases h0:((2*j+2:Nat):Int)<(q.length:Int)
  ·rw [if_pos h0]
   exact ⟨hr,by rw [aoq]; exact ⟨j,rfl,h1,rfl,by omega,rfl⟩⟩
  ·rw [if_neg h0]
   refine ⟨hr,?_⟩
   rw [aoq]
   refine azZ (b:=2*j+1) h1 (by omega) h2 (by omega) fun x a b d =>?_
   have:x=2*j+1:=by omega
   rw [this]; exact Int.le_refl _
 | l6 m i c0 x y z =>
  obtain ⟨j,rfl,h1,rfl,h2,rfl⟩:=hp
  have hh:=h1.h
  have e1:wi (2*(j:Int))=2*(j:Int):=aaw (aai (by omega))
  have e2:wi (2*(j:Int)+2)=((2*j+2:Nat):Int):=(aaw (aai (by omega))).trans (by omega)
  refine ⟨q,?_⟩
  simp only [aby]
  rw [h.l,e1,e2,aig (i:=((2*j+2:Nat):Int)) ⟨by omega,by omega⟩ (by omega),← aqU (c:=c) (e:=e) (j:=2*j+2) (by omega)]
  have ch:∀ x,1≤x→x<q.length→(x-1) / 2=j→x=2*j+1∨x=2*j+2:=fun x _ _ _ =>by omega
  by_cases h0:slG c e (2*j+2)<(ivE c e).g (2*j+1)
  ·rw [if_pos h0]
   refine ⟨hr,?_⟩
   rw [aoq]
   refine azZ (b:=2*j+2) h1 (by omega) h2 (by omega) fun x a b d =>?_
   rcases ch x a b d with r | r
   ·rw [r]; exact Int.le_of_lt h0
   ·rw [r]; exact Int.le_refl _
  ·rw [if_neg h0]
   refine ⟨hr,?_⟩
   rw [aoq]
   refine azZ (b:=2*j+1) h1 (by omega) (by omega) (by omega) fun x a b d =>?_
   rcases ch x a b d with r | r
   ·rw [r]; exact Int.le_refl _
   ·rw [r]; show _≤slG c e (2*j+2); omega
 | l7 m i c0 x y z =>
  obtain ⟨j,b,rfl,h1,rfl,b1,b2,b3,rfl,h2,h3⟩:=hp
  have hh:=h1.h
  have hb:=h1.dn.b
  refine ⟨q,?_⟩
  simp only [aby]
  rw [h.l,aig (i:=(j:Int)) ⟨by omega,by omega⟩ (by omega)]
  refine ⟨hr,?_⟩
  rw [asi (by omega) hl]
  refine aAf (j:=b) ⟨h1.sq,h1.r,h1.n,hh,h1.dn.step b1 b2 b3 h2 h3,fun x =>?_⟩ (by omega)
  have c1:=ahk (g:=slG c e) (x:=x) (v:=y) (i:=j) (n:=q.length) hb
  have c2:=ahk (g:=slG c e) (x:=x) (v:=slG c e b) (i:=j) (n:=q.length) hb
  have c3:=ahk (g:=aoC (slG c e) j (slG c e b)) (x:=x) (v:=y) (i:=b) (n:=q.length) b2
  rw [ad4 (g:=slG c e) (i:=j) (j:=b) (by omega)] at c3
  have c4:ali (aoC (slG c e) j y) x q.length=aqD x q:=h1.ct x
  show ali (aoC (aoC (slG c e) j (slG c e b)) b y) x q.length=_
  omega
 | l8 m i c0 x y z =>
  obtain ⟨j,rfl,h1,h2⟩:=hp
  have hh:=h1.h
  have hb:=h1.dn.b
  refine ⟨q,?_⟩
  simp only [aby]
  rw [h.l,aig (i:=(j:Int)) ⟨by omega,by omega⟩ (by omega)]
  refine ⟨hr,?_⟩
  rw [asi (by omega) hl]
  exact ⟨h1.sq,h1.r,h1.n.1,hh,h1.dn.fill h2,h1.ct⟩
end
inductive Pz where
 | rest
 | adm
 | ins (D T:Int) (s:InsertS)
 | rem (s:RemoveS)
def HPh (c:Cfg) (v:IV) (q:List QK) (a:Int):Pz→Prop
 | .rest =>RestV c v q a
 | .adm =>RestV c v q a∧v.s<c.heap
 | .ins D T s =>aH5 c v q a ⟨D,a,T⟩ s
 | .rem s =>aFK c v q a s
structure Qn (c:Cfg) (e e':EnvP):Prop where
 g:∀ b,2≤b→b<4+c.heap→e'.gt b=e.gt b
 ev:∃ l,e'.evs=e.evs++l∧∀ x∈l,3≤x.kind∧x.kind≠13
theorem Qz.n {c:Cfg} {e e':EnvP} (h:Qz c e e'):Qn c e e':=⟨fun b h1 h2 =>h.g b (by omega) h2,h.ev⟩
theorem aEU {c:Cfg} {e e':EnvP} (h:Qn c e e') (h1:1≤c.heap):ivE c e'=ivE c e:=by
 unfold ivE slG
 rw [h.g 2 (by omega) (by omega),h.g 3 (by omega) (by omega)]
 congr 1
 funext j
 split
 ·exact h.g _ (by omega) (by omega)
 ·rfl
theorem aCV {c:Cfg} {e e':EnvP} (h:Qn c e e') {s:List QK×Int} (hr:akO c ([],0) e.evs=some s):akO c ([],0) e'.evs=some s:=by
 obtain ⟨l,h1,h2⟩:=h.ev
 rw [h1,aij,hr]
 exact ayC h2
structure QH (c:Cfg) (e:EnvP) (q:List QK) (a:Int) (p:Pz):Prop where
 r:akO c ([],0) e.evs=some (q,a)
 h:HPh c (ivE c e) q a p
theorem QH.qn {c:Cfg} {e e':EnvP} {q:List QK} {a:Int} {p:Pz} (hc:1≤c.heap) (t:QH c e q a p) (h:Qn c e e'):QH c e' q a p:=⟨aCV h t.r,by rw [aEU h hc]; exact t.h⟩
inductive Kh (c:Cfg) (u:Int) (e e':EnvP):Bool→Pz→Bool→Pz→Prop
 | free:Qz c e e'→Kh c u e e' false .rest false .rest
 | acq {p:Pz}:e.gt 1=0→e'.gt 1=wu (wi (u+1))→Qn c e e'→(p=.rest∨p=.rem .l1)→Kh c u e e' false .rest true p
 | rel:e'.gt 1=0→Qn c e e'→Kh c u e e' true .rest false .rest
 | hold {p p':Pz}:e'.gt 1=e.gt 1→(∀ q a,0≤a→a≤1000000→QH c e q a p→∃ q' a',(a≤a'∧a'≤a+1)∧QH c e' q' a' p')→Kh c u e e' true p true p'
theorem Kh.qs {c:Cfg} {u:Int} {e e':EnvP} {p:Pz} (h:Qz c e e') (h1:1≤c.heap):Kh c u e e' true p true p:=.hold (h.g 1 (by omega) (by omega)) fun q a _ _ t =>⟨q,a,⟨by omega,by omega⟩,t.qn h1 h.n⟩
theorem Kh.wk {c:Cfg} {u:Int} {e e':EnvP} {p p':Pz} (h:Qz c e e') (h1:1≤c.heap) (hp:∀ v q a,HPh c v q a p→HPh c v q a p'):Kh c u e e' true p true p':=.hold (h.g 1 (by omega) (by omega)) fun q a _ _ t =>⟨q,a,⟨by omega,by omega⟩,aCV h.n t.r,by rw [aEU h.n h1]; exact hp _ _ _ t.h⟩
section
variable {c:Cfg} {e e':EnvP} {a v k o w x u:Int}
theorem aIW (h:MI c e) (hn:(e.m.cells.length:Int)=aa9 c):3<(e.m.cells.length:Int):=by
 have:=aEN h hn
 have h4:=h.d.h
 omega
theorem ase (hl:3<(e.m.cells.length:Int)) (hh:e.hit 1 0=true):e.gt 1=0∧(ang o e).gt 1=wu (wi (o+1))∧Qn c e (ang o e):=by
 have h1:aeu e.m.cells 1=0:=(of_decide_eq_true hh).2
 have h0:e.gt 1=0:=by
  show e.m.gt 1=0
  unfold MemV.gt
  rw [if_pos (by omega),h1]
 have g:∀ b,(ang o e).gt b=if b=1∧0≤(1:Int)∧1<(e.m.cells.length:Int) then (if e.m.gt 1=0 then wu (wi (o+1)) else e.m.gt 1) else e.gt b:=fun b =>ae4 (k:=3)
 refine ⟨h0,?_,fun b h1 h2 =>?_,[],by show e.evs=_; simp,fun x hx =>by cases hx⟩
 ·rw [g,if_pos (by omega),if_pos h0]
 ·rw [g,if_neg (by omega)]
theorem apS (hl:3<(e.m.cells.length:Int)) (hh:¬ e.hit 1 0=true):Qz c e (ang o e):=by
 have h0:e.m.gt 1≠0:=fun k =>hh (decide_eq_true ⟨by omega,by
  unfold MemV.gt at k
  rw [if_pos (by omega)] at k
  exact k⟩)
 have g:∀ b,(ang o e).gt b=e.gt b:=fun b =>by
  have g1:(ang o e).gt b=if b=1∧0≤(1:Int)∧1<(e.m.cells.length:Int) then (if e.m.gt 1=0 then wu (wi (o+1)) else e.m.gt 1) else e.gt b:=ae4 (k:=3)
  rw [g1,if_neg h0]
  split
  ·rename_i k; rw [k.1]
  ·rfl
 exact ⟨fun b _ _ =>g b,[],by show e.evs=_; simp,fun x hx =>by cases hx⟩
theorem aDb (hl:3<(e.m.cells.length:Int)):(aqa e).gt 1=0∧Qn c e (aqa e):=by
 have g:∀ b,(aqa e).gt b=if b=1∧0≤(1:Int)∧1<(e.m.cells.length:Int) then 0 else e.gt b:=fun b =>ae4 (k:=2)
 refine ⟨?_,fun b h1 h2 =>?_,[],by show e.evs=_; simp,fun x hx =>by cases hx⟩
 ·rw [g,if_pos (by omega)]
 ·rw [g,if_neg (by omega)]
theorem aEY (hl:3<(e.m.cells.length:Int)) {D T:Int} {s:InsertS} (h:MI c e):(abq D T e s).2.gt 1=e.gt 1:=by
 have hw:∀ {k b x:Int},b≠1→(e.pt k b x).gt 1=e.gt 1:=fun hb =>by rw [ae4,if_neg (fun h =>hb h.1.symm)]
 have hs:∀ i,aeo (aaE c) i≠1:=fun i hi =>by have:=amu h.d (i:=i); rw [hi,asN h.d (by omega)] at this; omega
 cases s with
 | l1 =>exact akE
 | l2 m =>exact hw (by omega)
 | l3 m i k x =>
  simp only [abq]
  exact akE
 | l4 m i k x =>
  simp only [abq]
  rw [h.l]; exact hw (hs _)
 | l5 m i k x =>
  simp only [abq]
  rw [h.l]; exact hw (hs _)
 | l6 m i k x =>exact hw (by omega)
theorem aEe {s:RemoveS} (h:MI c e):(aby w e s).2.gt 1=e.gt 1:=by
 have hw:∀ {k b x:Int},b≠1→(e.pt k b x).gt 1=e.gt 1:=fun hb =>by rw [ae4,if_neg (fun h =>hb h.1.symm)]
 have hs:∀ i,aeo (aaE c) i≠1:=fun i hi =>by have:=amu h.d (i:=i); rw [hi,asN h.d (by omega)] at this; omega
 cases s with
 | l1 =>exact akE
 | l2 m =>exact akE
 | l3 m x =>exact akE
 | l4 m x y =>exact hw (by omega)
 | l5 m i c0 x y z =>exact akE
 | l6 m i c0 x y z =>exact akE
 | l7 m i c0 x y z =>
  simp only [aby]
  rw [h.l]; exact hw (hs _)
 | l8 m i c0 x y z =>
  simp only [aby]
  rw [h.l]; exact hw (hs _)
theorem aBp (h:MI c e) (hn:(e.m.cells.length:Int)=aa9 c) (s:RemoveS):Kh c w e (aby w e s).2 true (.rem s) true (match (aby w e s).1 with | .go s' =>.rem s' | .fin _ _ =>.rest):=by
 refine .hold (aEe h) fun q a h0 h1 t =>?_
 obtain ⟨q',hq⟩:=aIE (w:=w) h hn ⟨h0,h1⟩ t.r t.h
 revert hq
 rcases aby w e s with ⟨r,e'⟩
 intro hq
 cases r with
 | go s' =>exact ⟨q',a,⟨by omega,by omega⟩,hq.1,hq.2⟩
 | fin _ _ =>exact ⟨q',a,⟨by omega,by omega⟩,hq.1,hq.2⟩
def phD:DrainC→Pz
 | .l3 s =>.rem s
 | _ =>.rest
def phR:Rs DrainS→Pz
 | .go d =>phD d.c
 | .fin _ _ =>.rest
def aB5:DrainC→Bool
 | .l3 _ =>true
 | .l4 =>true
 | .l5 _ =>true
 | .l6 =>true
 | _ =>false
def auf:Rs DrainS→Bool
 | .go d =>aB5 d.c
 | .fin _ _ =>false
theorem aoS {d:DrainS}:auf (ah3 d)=false∧phR (ah3 d)=.rest:=by
 unfold ah3
 split
 ·exact ⟨rfl,rfl⟩
 ·split<;>exact ⟨rfl,rfl⟩
theorem aFt (h:MI c e) (hn:(e.m.cells.length:Int)=aa9 c) (d:DrainS) (hd:auR c d):Kh c w e (abI w e d).2 (aB5 d.c) (phD d.c) (auf (abI w e d).1) (phR (abI w e d).1):=by
 have hl:=aIW h hn
 have hc:=h.d.h.1
 obtain ⟨x,dir,p,last,cnt,k⟩:=d
 obtain ⟨_,h2⟩:=hd
 cases k with
 | l1 =>
  show Kh c w e (e.lk 2) false .rest (auf (if _ then _ else _)) (phR (if _ then _ else _))
  split<;>exact .free .lk
 | l2 =>
  show Kh c w e (ang w e) false .rest (auf (if _ then _ else _)) (phR (if _ then _ else _))
  split
  ·rename_i hh
   obtain ⟨a1,a2,a3⟩:=ase (c:=c) (o:=w) hl hh
   exact .acq a1 a2 a3 (.inr rfl)
  ·rename_i hh
   exact .free (apS hl hh)
 | l3 s =>
  have:=aBp (w:=w) h hn s
  simp only [abI]
  revert this
  rcases aby w e s with ⟨o,e'⟩
  intro this
  cases o with
  | go s =>exact this
  | fin c0 v0 =>
   show Kh c w e e' true (.rem s) (auf (if c0=2 then _ else _)) (phR (if c0=2 then _ else _))
   split<;>exact this
 | l4 =>exact .qs .lk hc
 | l5 s =>
  have:=apP (w:=w) (v:=p) (x:=x) h s h2.2
  simp only [abI]
  revert this
  rcases ace w p x e s with ⟨o,e'⟩
  intro this
  cases o with
  | go s =>exact .qs this hc
  | fin c0 v0 =>
   show Kh c w e e' true .rest (auf (if c0=3 then _ else if _ then _ else _)) (phR (if c0=3 then _ else if _ then _ else _))
   split
   ·exact .qs this hc
   ·split
    ·exact .wk this hc fun _ _ _ h =>h
    ·exact .qs this hc
 | l6 =>
  obtain ⟨a1,a2⟩:=aDb (c:=c) hl
  show Kh c w e (aqa e) true .rest (auf (if _ then _ else _)) (phR (if _ then _ else _))
  split
  ·exact .rel a1 a2
  ·rw [aoS.1,aoS.2]; exact .rel a1 a2
 | l7 s =>
  have:=ati (w:=w) (v:=last) h s
  simp only [abI]
  revert this
  rcases aev w last e s with ⟨o,e'⟩
  intro this
  cases o with
  | go s =>exact .free this
  | fin c0 v0 =>
   show Kh c w e e' false .rest (auf (ah3 _)) (phR (ah3 _))
   rw [aoS.1,aoS.2]
   exact .free this
def ajL:WorkC→Bool
 | .t3 d =>aB5 d.c
 | _ =>false
def phW:WorkC→Pz
 | .t3 d =>phD d.c
 | _ =>.rest
theorem axn {k:WorkS}:ajL (acb w e k)=ajL k.c∧phW (acb w e k)=phW k.c:=by
 unfold acb
 split
 ·rename_i h; rw [h]; split<;>exact ⟨rfl,rfl⟩
 ·exact ⟨rfl,rfl⟩
theorem azt:ajL (ap3 e)=false∧phW (ap3 e)=.rest:=by
 unfold ap3
 split<;>exact ⟨rfl,rfl⟩
theorem azo {P:Prop} [Decidable P] {α:Type} {f:α→Bool} {g:α→Pz} {x y:α} (h1:f x=false∧g x=.rest) (h2:f y=false∧g y=.rest):f (if P then x else y)=false∧g (if P then x else y)=.rest:=by
 split<;>assumption
theorem aF9 {k:WorkS} (h:MI c e) (hn:(e.m.cells.length:Int)=aa9 c) (hk:avU c k):Kh c w e (acZ w e k).2 (ajL k.c) (phW k.c) (ajL (acZ w e k).1.c) (phW (acZ w e k).1.c):=by
 have hB:=(axX (w:=w) h hk).1
 have hb:=axn (w:=w) (e:=e) (k:=k)
 rw [← hb.1,← hb.2]
 unfold acZ
 revert hB hb
 generalize acb w e k=kc
 intro h1 hb
 have st:∀ {e':EnvP} {k':WorkS},Qz c e e'→(ajL k'.c=false∧phW k'.c=.rest)→Kh c w e e' false .rest (ajL k'.c) (phW k'.c):=fun q p =>by rw [p.1,p.2]; exact .free q
 cases kc with
 | top =>
  show Kh c w e e (ajL .top) (phW .top) (ajL k.c) (phW k.c)
  rw [← hb.1,← hb.2]
  exact .free .refl
 | t1 t s =>
  have:=aDw (w:=w) h s h1.2 (t:=t)
  simp only
  revert this
  rcases abA w t e s with ⟨o,e'⟩
  intro this
  cases o<;>exact .free this
 | t2 s =>
  have:=aGj (w:=w) h s
  simp only
  revert this
  rcases ak0 w e s with ⟨o,e'⟩
  intro this
  cases o with
  | go s =>exact .free this
  | fin c0 v0 =>exact st this (azo (f:=fun k:WorkS =>ajL k.c) (g:=fun k:WorkS =>phW k.c) ⟨rfl,rfl⟩ ⟨rfl,rfl⟩)
 | t3 s =>
  have:=aFt (w:=w) h hn s h1
  simp only
  revert this
  rcases abI w e s with ⟨o,e'⟩
  intro this
  cases o with
  | go s =>exact this
  | fin c0 v0 =>
   have e0:ajL (if c0=1 then { k with x:=v0,c:=.t6 } else if c0=0 then { k with c:=.t2 atl } else { k with c:=ap3 e' }:WorkS).c=false∧phW (if c0=1 then { k with x:=v0,c:=.t6 } else if c0=0 then { k with c:=.t2 atl } else { k with c:=ap3 e' }:WorkS).c=.rest :=
    azo (f:=fun k:WorkS =>ajL k.c) (g:=fun k:WorkS =>phW k.c) ⟨rfl,rfl⟩ (azo (f:=fun k:WorkS =>ajL k.c) (g:=fun k:WorkS =>phW k.c) ⟨rfl,rfl⟩ azt)
   show Kh c w e e' (aB5 s.c) (phD s.c) (ajL (if c0=1 then { k with x:=v0,c:=.t6 } else if c0=0 then { k with c:=.t2 atl } else { k with c:=ap3 e' }:WorkS).c) (phW (if c0=1 then { k with x:=v0,c:=.t6 } else if c0=0 then { k with c:=.t2 atl } else { k with c:=ap3 e' }:WorkS).c)
   rw [e0.1,e0.2]
   exact this
 | t4 s =>
  have:=aEn (c:=c) (w:=w) (e:=e) s
  simp only
  revert this
  rcases akP w e s with ⟨o,e'⟩
  intro this
  cases o with
  | go s =>exact .free this
  | fin c0 v0 =>exact st this (azo (f:=fun k:WorkS =>ajL k.c) (g:=fun k:WorkS =>phW k.c) ⟨rfl,rfl⟩ ⟨rfl,rfl⟩)
 | t5 s =>
  have:=aDJ (w:=k.victim) (v:=k.level) h s
  simp only
  rw [h.l]
  revert this
  rcases aiS (aax (aaE c) k.victim k.level) e s with ⟨o,e'⟩
  intro this
  cases o with
  | go s =>exact .free this
  | fin c0 v0 =>
   simp only
   split
   ·exact .free (this.em (by omega))
   ·split<;>exact .free this
 | t6 =>
  exact st (k':=(if ahn k.x e=true then { k with c:=.t7 (aFP k.x) } else { k with c:=.top }:WorkS)) (aqo h) (azo (f:=fun k:WorkS =>ajL k.c) (g:=fun k:WorkS =>phW k.c) ⟨rfl,rfl⟩ ⟨rfl,rfl⟩)
 | t7 s =>
  have:=aIC (w:=w) h h1
  simp only
  revert this
  rcases au2 w e s with ⟨o,e'⟩
  intro this
  cases o<;>exact .free this
 | t8 s =>
  have:=aDQ (w:=w) h s
  simp only
  revert this
  rcases agk w e s with ⟨o,e'⟩
  intro this
  cases o<;>exact .free this
 | t9 s =>
  have:=ayz (w:=k.victim) (v:=k.level) (a:=k.victim) (b:=k.level) h s
  simp only
  rw [h.l]
  revert this
  rcases agm (aaN (aaE c) k.victim) k.level (aax (aaE c) k.victim k.level) e s with ⟨o,e'⟩
  intro this
  cases o<;>exact .free this
def aqP:ClieC→Bool
 | .n1 =>false
 | .a1 =>false
 | .n9 =>false
 | .a9 _ =>false
 | _ =>true
def phC (subs:List Sub) (k:ClieS):Pz:=match k.c with
 | .n3 =>.adm
 | .n4 =>.adm
 | .n5 =>.adm
 | .n6 =>.ins (abf subs k.i).deadline k.id .l1
 | .a6 t =>.ins (abf subs k.i).deadline k.id t
 | _ =>.rest
theorem aGI {subs:List Sub} {k:ClieS} (h:aqP k.c=false):phC subs k=.rest:=by
 obtain ⟨i,id,acc,g⟩:=k
 cases g<;>first | rfl | cases h
theorem aHr {me:Int} {k:ClieS} (h:MI c e) (hn:(e.m.cells.length:Int)=aa9 c) (hi:k.i<(c.subs.length:Int)) (h0:0≤k.i) (ht:TOk c k.id) (t:InsertS) :
  let o:Bool×ClieS×EnvP:=match abq (abf c.subs k.i).deadline k.id e t with
  | (.go t,e') =>(false,{ k with c:=.a6 t },e')
  | (.fin c0 _,e') =>if c0=0 then (false,{ k with acc:=true,c:=.n7 },e'.em 1 me k.id k.i (abf c.subs k.i).level) else (false,{ k with c:=.n8 },e')
  Kh c me e o.2.2 true (.ins (abf c.subs k.i).deadline k.id t) (aqP o.2.1.c) (phC c.subs o.2.1):=by
 have sd:0≤(abf c.subs k.i).deadline∧(abf c.subs k.i).deadline≤15:=(h.d.ss _ (auF (α:=Sub) (d:=(dfR 4:TR 4)) ⟨h0,hi⟩)).2.2
 have hd:=h.d.t
 obtain ⟨t1,t2⟩:=ht
 have one:=aEY (aIW h hn) (D:=(abf c.subs k.i).deadline) (T:=k.id) (s:=t) h
 have key:∀ q a,0≤a→a≤1000000→QH c e q a (.ins (abf c.subs k.i).deadline k.id t)→(match abq (abf c.subs k.i).deadline k.id e t with
  | (.go s',e') =>e'.evs=e.evs∧aH5 c (ivE c e') q a ⟨(abf c.subs k.i).deadline,a,k.id⟩ s'
  | (.fin c0 _,e') =>c0=0∧e'.evs=e.evs∧RestV c (ivE c e') (aue ⟨(abf c.subs k.i).deadline,a,k.id⟩ q) (a+1)):=fun q a a0 a1 z =>aIZ h hn (K:=⟨(abf c.subs k.i).deadline,a,k.id⟩) (a:=a) (q:=q) ⟨⟨by show 0≤(abf c.subs k.i).deadline; omega,by show (abf c.subs k.i).deadline≤1000; omega⟩,rfl,t1,by show k.id≤65535; omega⟩ ⟨a0,a1⟩ (s:=t) z.h
 intro o
 revert one key o
 rcases abq (abf c.subs k.i).deadline k.id e t with ⟨r,e'⟩
 intro one key
 cases r with
 | go s' =>
  refine .hold one fun q a a0 a1 z =>?_
  obtain ⟨k1,k2⟩:=key q a a0 a1 z
  exact ⟨q,a,⟨by omega,by omega⟩,by rw [k1]; exact z.r,k2⟩
 | fin c0 v0 =>
  show Kh c me e (if c0=0 then _ else _:Bool×ClieS×EnvP).2.2 true _ (aqP (if c0=0 then _ else _:Bool×ClieS×EnvP).2.1.c) (phC c.subs (if c0=0 then _ else _:Bool×ClieS×EnvP).2.1)
  split
  ·refine .hold one fun q a a0 a1 z =>?_
   obtain ⟨_,k1,k2⟩:=key q a a0 a1 z
   refine ⟨_,a+1,⟨by omega,by omega⟩,?_,k2⟩
   show akO c ([],0) (e'.evs++[_])=_
   rw [k1,aij,z.r]
   show akO c (q,a) [_]=_
   rw [aoI]
   have hq:(q.length:Int)<c.heap:=by
    have hz:=z.h
    have kl:=k2.h
    rw [aix] at kl
    omega
   unfold ahS
   rw [if_pos rfl]
   exact if_pos ⟨⟨h0,hi⟩,hq,t1,by show k.id≤65535; omega⟩
  ·rename_i hc0
   refine .hold one fun q a a0 a1 z =>?_
   exact absurd (key q a a0 a1 z).1 hc0
theorem aGA {l t o:Int} {me:Int} {p:Pz} {e':EnvP} (h:Qz c e e') (hv:e'.evs=e.evs) (hc:1≤c.heap) (hp:∀ q a,QH c e q a p→RestV c (ivE c e) q a∧(l≠1∨(q.length:Int)=c.heap)):Kh c me e (e'.em 2 me t o l) true p true .rest:=by
 refine .hold (h.g 1 (by omega) (by omega)) fun q a _ _ z =>⟨q,a,⟨by omega,by omega⟩,?_,?_⟩
 ·show akO c ([],0) (e'.evs++[_])=_
  rw [hv,aij,z.r]
  show akO c (q,a) [_]=_
  rw [aoI]
  unfold ahS
  rw [if_neg (show ¬ (2:Int)=1 by decide),if_neg (show ¬ (2:Int)=13 by decide),if_pos rfl]
  exact if_pos (hp q a z).2
 ·show RestV c (ivE c (e'.em 2 me t o l)) q a
  rw [aHo,aEU h.n hc]
  exact (hp q a z).1
theorem aHU {me:Int} {k:ClieS} (h:MI c e) (hn:(e.m.cells.length:Int)=aa9 c) (hk:aCN c k):Kh c me e (anq c.subs me e k).2.2 (aqP k.c) (phC c.subs k) (aqP (anq c.subs me e k).2.1.c) (phC c.subs (anq c.subs me e k).2.1):=by
 have hl:=aIW h hn
 have hc:=h.d.h.1
 unfold anq
 by_cases hov:(c.subs.length:Int)≤k.i
 ·rw [if_pos hov]
  show Kh c me e e (aqP k.c) (phC c.subs k) (aqP k.c) (phC c.subs k)
  cases hh:aqP k.c with
  | true =>exact .qs .refl hc
  | false =>rw [aGI hh]; exact .free .refl
 rw [if_neg hov]
 have hi:k.i<(c.subs.length:Int):=by omega
 have h0:=hk.1
 obtain ⟨i,id,acc,g⟩:=k
 obtain ⟨_,h1⟩:=hk
 simp only at hi h0
 cases g with
 | n1 =>
  simp only [adk]
  by_cases hh:e.hit 1 0=true
  ·rw [if_pos hh]
   obtain ⟨a1,a2,a3⟩:=ase (c:=c) (o:=me) hl hh
   exact .acq a1 a2 a3 (.inl rfl)
  ·rw [if_neg hh]; exact .free (apS hl hh)
 | a1 =>
  simp only [adk]
  by_cases hh:e.hit 1 0=true
  ·rw [if_pos hh]
   obtain ⟨a1,a2,a3⟩:=ase (c:=c) (o:=me) hl hh
   exact .acq a1 a2 a3 (.inl rfl)
  ·rw [if_neg hh]; exact .free (apS hl hh)
 | n2 =>
  simp only [adk]
  rw [h.cc]
  split
  ·rename_i hq
   refine aGA (e':=e.lk 2) .lk rfl hc fun q a z =>⟨z.h,.inr ?_⟩
   have r:RestV c (ivE c e) q a:=z.h
   have e2:e.gt 2=(q.length:Int):=r.n
   have hh:=r.h
   have h4:=h.d.h
   rw [aaw (x:=e.gt 2) (aai (by omega))] at hq
   omega
  ·rename_i hq
   refine .hold ((Qz.lk:Qz c e (e.lk 2)).g 1 (by omega) (by omega)) fun q a _ _ z =>⟨q,a,⟨by omega,by omega⟩,z.r,?_⟩
   have r:RestV c (ivE c e) q a:=z.h
   have e2:e.gt 2=(q.length:Int):=r.n
   have hh:=r.h
   have h4:=h.d.h
   rw [aaw (x:=e.gt 2) (aai (by omega))] at hq
   show RestV c (ivE c (e.lk 2)) q a∧(ivE c (e.lk 2)).s<c.heap
   rw [aoq]
   exact ⟨r,by show e.gt 2<c.heap; omega⟩
 | n3 =>
  simp only [adk]
  split
  ·exact .qs (as1 h.d).pr hc
  ·exact aGA (e':=aff e) (as1 h.d) rfl hc fun q a z =>⟨z.h.1,.inl (by decide)⟩
 | n4 =>
  simp only [adk]
  rw [h.l]
  exact .qs (.wr h.d (aki h.d)) hc
 | n5 =>
  simp only [adk]
  rw [h.l]
  exact .wk (.wr h.d (ann h.d (by omega))) hc fun _ _ _ h =>h
 | n6 =>exact aHr (k:=⟨i,id,acc,.n6⟩) h hn hi h0 h1 .l1
 | a6 t =>exact aHr (k:=⟨i,id,acc,.a6 t⟩) h hn hi h0 h1.1 t
 | n7 =>
  simp only [adk]
  rw [h.l]
  exact .qs (.wr h.d (agE h.d)) hc
 | n8 =>
  simp only [adk]
  obtain ⟨a1,a2⟩:=aDb (c:=c) hl
  split
  ·exact .rel a1 a2
  ·exact .rel a1 a2
 | n9 =>
  have:=ati (w:=me) (v:=(abf c.subs i).level) h (.l1 0)
  simp only [adk]
  revert this
  rcases aev me (abf c.subs i).level e (.l1 0) with ⟨r,e'⟩
  intro this
  cases r with
  | go s =>exact .free this
  | fin c0 v0 =>exact .free this
 | a9 t =>
  have:=ati (w:=me) (v:=(abf c.subs i).level) h t
  simp only [adk]
  revert this
  rcases aev me (abf c.subs i).level e t with ⟨r,e'⟩
  intro this
  cases r with
  | go s =>exact .free this
  | fin c0 v0 =>exact .free this
end
end
section
inductive Ts where
 | fresh | alloc (m:Nat) | acc (m:Nat) | ready | run (m:Nat) | bm (m:Nat) | wait (u:Int) | fin (m:Nat) | fg (m:Nat) | done
inductive Ph where
 | n | p (id:Int) | q (id:Int) | j (t u:Int) | b (t u:Int) | r (t:Int) | f (t:Int) | g (t:Int) | h (t x:Int)
def upd {α:Type} (f:Int→α) (a:Int) (v:α) (x:Int):α:=if x=a then v else f x
def an4 {α:Type} (f:Nat→α) (a:Nat) (v:α) (x:Nat):α:=if x=a then v else f x
theorem aid {α:Type} {f:Int→α} {a:Int} {v:α}:upd f a v a=v:=if_pos rfl
theorem ach {α:Type} {f:Int→α} {a x:Int} {v:α} (h:x≠a):upd f a v x=f x:=if_neg h
theorem abb {α:Type} {f:Nat→α} {a:Nat} {v:α}:an4 f a v a=v:=if_pos rfl
theorem acp {α:Type} {f:Nat→α} {a x:Nat} {v:α} (h:x≠a):an4 f a v x=f x:=if_neg h
def Ts.mine:Ts→Option Nat
 | .alloc m =>some m
 | .acc m =>some m
 | .run m =>some m
 | .bm m =>some m
 | .fin m =>some m
 | .fg m =>some m
 | _ =>none
def Ts.over:Ts→Prop
 | .fg _ =>True
 | .done =>True
 | _ =>False
structure Ab where
 T:Int
 N:Int
 S:Int→Int
 J:Int→Int
 wa:Int→Int
 st:Int→Bool
 kn:Int→Nat
 sn:Int→Nat
 fn:Int→Nat
 ts:Int→Ts
 hd:Nat→List Int
 ph:Nat→Ph
def Ab.ok (a:Ab) (t:Int):Prop:=0≤t∧t<a.T
def aJS (s:Ts) (S wa J:Int) (st:Bool) (kn fn:Nat):Prop:=match s with
 | .fresh =>S=0∧st=false∧kn=0∧fn=0
 | .alloc _ =>S=0∧st=false∧kn=0∧fn=0
 | .acc _ =>S=0∧st=false∧kn=1∧fn=0
 | .ready =>S=1∧kn=1∧fn=0
 | .run _ =>S=2∧st=true∧kn=1∧fn=0
 | .bm _ =>S=3∧st=true∧kn=1∧fn=0
 | .wait u =>S=3∧st=true∧kn=1∧fn=0∧wa=u
 | .fin _ =>S=4∧st=true∧kn=1∧fn=0
 | .fg _ =>S=4∧st=true∧kn=1∧fn=1∧J≠0
 | .done =>S=4∧st=true∧kn=1∧fn=1∧J≠0
def Cl (N t:Int) (s:Ts) (S wa J:Int) (st:Bool) (kn sn fn:Nat):Prop :=
 (sn=if st=true then 1 else 0)∧(s=.fresh↔N≤t)∧aJS s S wa J st kn fn
def Ab.phOk (a:Ab) (m:Nat) (hd:List Int):Ph→Prop
 | .n =>True
 | .p i =>a.ok i∧a.ts i=.alloc m
 | .q i =>a.ok i∧a.ts i=.acc m
 | .j t u =>t∈hd∧a.wa t=u
 | .b t u =>a.ok t∧a.ts t=.bm m∧a.wa t=u
 | .r t =>a.ok t∧a.ts t=.bm m
 | .f t =>a.ok t∧a.ts t=.fin m
 | .g t =>a.ok t∧a.ts t=.fg m∧∀ w,a.ok w→a.J t=w+1→a.ts w=.wait t
 | .h t x =>a.ok t∧a.ts t=.fg m∧a.ok x∧a.ts x=.wait t
structure LA (a:Ab):Prop where
 n0:0≤a.N
 no:∀ t,¬ a.ok t→a.kn t=0∧a.sn t=0∧a.fn t=0
 cl:∀ t,a.ok t→Cl a.N t (a.ts t) (a.S t) (a.wa t) (a.J t) (a.st t) (a.kn t) (a.sn t) (a.fn t)
 hd:∀ m t,t∈a.hd m→a.ok t∧a.ts t=.run m
 nd:∀ m,(a.hd m).Nodup
 ph:∀ m,a.phOk m (a.hd m) (a.ph m)
 j1:∀ u w,a.ok u→a.ok w→¬ (a.ts u).over→a.J u=w+1→a.ts w=.wait u
 jb:∀ u,a.ok u→a.J u≤4294967296
 c4:∀ m t,a.ok t→a.ts t=.fin m→a.ph m=.f t
theorem LA.put {a:Ab} (h:LA a) {m:Nat} {t:Int} (ht:a.ok t) {s:Ts} {S wa:Int} {st:Bool} {kn sn fn:Nat} {l:List Int} {p:Ph}
  (own:∀ m',(a.ts t).mine=some m'→m'=m) (hw:∀ u,a.ts t=.wait u→a.ok u∧a.ts u=.fg m)
  (ho:(a.ts t).over→s.over) (hc:Cl a.N t s S wa (a.J t) st kn sn fn)
  (hl:∀ x∈l,(x=t∧s=.run m)∨(x≠t∧x∈a.hd m)) (hn:l.Nodup)
  (h4:∀ m',s=.fin m'→m'=m∧p=.f t) (h5:∀ x,x≠t→a.ph m≠.f x)
  (hp:Ab.phOk { a with S:=upd a.S t S,wa:=upd a.wa t wa,st:=upd a.st t st,kn:=upd a.kn t kn,sn:=upd a.sn t sn,fn:=upd a.fn t fn,ts:=upd a.ts t s } m l p) :
  LA { a with S:=upd a.S t S,wa:=upd a.wa t wa,st:=upd a.st t st,kn:=upd a.kn t kn,sn:=upd a.sn t sn,fn:=upd a.fn t fn,ts:=upd a.ts t s,hd:=an4 a.hd m l,ph:=an4 a.ph m p } where
 n0:=h.n0
 no x hx:=by
  have hx':x≠t:=fun k =>hx (by rw [k]; exact ht)
  have:=h.no x hx
  simp only [ach hx']
  exact this
 cl x hx:=by
  by_cases hxt:x=t
  ·subst hxt; simp only [aid]; exact hc
  ·simp only [ach hxt]; exact h.cl x hx
 hd i x hx:=by
  by_cases hi:i=m
  ·subst hi
   simp only [abb] at hx
   rcases hl x hx with ⟨k,k2⟩ | ⟨k,k2⟩
   ·subst k; exact ⟨ht,by simp only [aid]; exact k2⟩
   ·have:=h.hd i x k2
    exact ⟨this.1,by simp only [ach k]; exact this.2⟩
  ·simp only [acp hi] at hx
   have:=h.hd i x hx
   have hxt:x≠t:=fun k =>by
    rw [k] at this
    exact hi (own i (by rw [this.2]; rfl))
   exact ⟨this.1,by simp only [ach hxt]; exact this.2⟩
 nd i:=by
  by_cases hi:i=m
  ·subst hi; simp only [abb]; exact hn
  ·simp only [acp hi]; exact h.nd i
 ph i:=by
  by_cases hi:i=m
  ·subst hi; simp only [abb]; revert hp; cases p<;>exact id
  ·simp only [acp hi]
   have hv:=h.ph i
   have key:∀ {x s},a.ts x=s→s.mine=some i→x≠t:=fun e1 e2 k =>hi (own i (by rw [← k,e1]; exact e2))
   have key2:∀ {x u},a.ts x=.wait u→a.ts u=.fg i→x≠t:=fun e1 e2 k =>hi (by
    have:=(hw _ (k▸e1)).2
    rw [e2] at this
    exact Ts.fg.inj this)
   cases hq:a.ph i with
   | n =>trivial
   | p x =>rw [hq] at hv; exact ⟨hv.1,by simp only [ach (key hv.2 rfl)]; exact hv.2⟩
   | q x =>rw [hq] at hv; exact ⟨hv.1,by simp only [ach (key hv.2 rfl)]; exact hv.2⟩
   | j x u =>rw [hq] at hv; exact ⟨hv.1,by simp only [ach (key (h.hd i x hv.1).2 rfl)]; exact hv.2⟩
   | b x u =>rw [hq] at hv; exact ⟨hv.1,by simp only [ach (key hv.2.1 rfl)]; exact hv.2.1,by simp only [ach (key hv.2.1 rfl)]; exact hv.2.2⟩
   | r x =>rw [hq] at hv; exact ⟨hv.1,by simp only [ach (key hv.2 rfl)]; exact hv.2⟩
   | f x =>rw [hq] at hv; exact ⟨hv.1,by simp only [ach (key hv.2 rfl)]; exact hv.2⟩
   | g x =>rw [hq] at hv; exact ⟨hv.1,by simp only [ach (key hv.2.1 rfl)]; exact hv.2.1,fun w hw1 hj =>by
     have:=hv.2.2 w hw1 hj
     simp only [ach (key2 this hv.2.1)]; exact this⟩
   | h x w =>rw [hq] at hv; exact ⟨hv.1,by simp only [ach (key hv.2.1 rfl)]; exact hv.2.1,hv.2.2.1,by simp only [ach (key2 hv.2.2.2 hv.2.1)]; exact hv.2.2.2⟩
 j1 u w hu hw1 ho1 hj:=by
  have ho2:¬ (a.ts u).over:=fun k =>by
   by_cases hut:u=t
   ·subst hut; simp only [aid] at ho1; exact ho1 (ho k)
   ·simp only [ach hut] at ho1; exact ho1 k
  have:=h.j1 u w hu hw1 ho2 hj
  have hwt:w≠t:=fun k =>by
   subst k
   have:=(hw u this).2
   rw [this] at ho2
   exact ho2 trivial
  simp only [ach hwt]; exact this
 jb:=h.jb
 c4 i x hx hf:=by
  by_cases hxt:x=t
  ·subst hxt
   simp only [aid] at hf
   obtain ⟨k1,k2⟩:=h4 i hf
   subst k1; simp only [abb]; exact k2
  ·simp only [ach hxt] at hf
   have:=h.c4 i x hx hf
   have hi:i≠m:=fun k =>h5 x hxt (k▸this)
   simp only [acp hi]; exact this
theorem LA.step {a:Ab} (h:LA a) {m:Nat} {l:List Int} {p:Ph} (hl:∀ x∈l,x∈a.hd m) (hn:l.Nodup) (hf:∀ x,a.ph m=.f x→p=.f x) (hp:a.phOk m l p) :
  LA { a with hd:=an4 a.hd m l,ph:=an4 a.ph m p } where
 n0:=h.n0
 no:=h.no
 cl:=h.cl
 hd i x hx:=by
  by_cases hi:i=m
  ·subst hi; simp only [abb] at hx; exact h.hd i x (hl x hx)
  ·simp only [acp hi] at hx; exact h.hd i x hx
 nd i:=by
  by_cases hi:i=m
  ·subst hi; simp only [abb]; exact hn
  ·simp only [acp hi]; exact h.nd i
 ph i:=by
  by_cases hi:i=m
  ·subst hi; simp only [abb]; revert hp; cases p<;>exact id
  ·simp only [acp hi]
   have hv:=h.ph i
   revert hv
   cases a.ph i<;>exact id
 j1:=h.j1
 jb:=h.jb
 c4 i x hx hq:=by
  have:=h.c4 i x hx hq
  by_cases hi:i=m
  ·subst hi; simp only [abb]; exact hf x this
  ·simp only [acp hi]; exact this
theorem LA.next {a:Ab} (h:LA a) {n:Int} (hn:a.N≤n) (ht:a.T≤a.N):LA { a with N:=n } where
 n0:=by have:=h.n0; show 0≤n; omega
 no:=h.no
 cl x hx:=by
  obtain ⟨c1,c2,c3⟩:=h.cl x hx
  have hx2:x<a.T:=hx.2
  exact ⟨c1,⟨fun k =>by have:=c2.1 k; omega,fun k =>by have k:n≤x:=k; omega⟩,c3⟩
 hd:=h.hd
 nd:=h.nd
 ph i:=by
  have hq:=h.ph i
  revert hq
  cases a.ph i<;>exact id
 j1:=h.j1
 jb:=h.jb
 c4:=h.c4
theorem LA.alloc {a:Ab} (h:LA a) {m:Nat} (ht:a.N<a.T) {l:List Int} (hl:∀ x∈l,x∈a.hd m) (hn:l.Nodup) (hp:a.ph m=.n) :
  LA { a with N:=a.N+1,st:=upd a.st a.N false,wa:=upd a.wa a.N (-1),ts:=upd a.ts a.N (.alloc m),hd:=an4 a.hd m l,ph:=an4 a.ph m (.p a.N) }:=by
 have hok:a.ok a.N:=⟨h.n0,ht⟩
 have hN:=h.cl _ hok
 have hfr:a.ts a.N=.fresh:=hN.2.1.2 (Int.le_refl _)
 have hne:∀ {x s},a.ts x=s→s≠.fresh→x≠a.N:=fun e1 e2 k =>e2 (by rw [← e1,k,hfr])
 rw [hfr] at hN
 obtain ⟨n1,n2,n3⟩:=hN
 refine ⟨by show 0≤a.N+1; have:=h.n0; omega,h.no,fun x hx =>?_,fun i x hx =>?_,fun i =>?_,fun i =>?_,fun u w hu hw ho hj =>?_,h.jb,fun i x hx hf =>?_⟩
 ·by_cases hxN:x=a.N
  ·subst hxN
   simp only [aid]
   refine ⟨by rw [n1,n3.2.1],⟨fun k =>(by cases k),fun k =>(by have k:a.N+1≤a.N:=k; omega)⟩,n3.1,rfl,n3.2.2.1,n3.2.2.2⟩
  ·simp only [ach hxN]
   obtain ⟨c1,c2,c3⟩:=h.cl x hx
   exact ⟨c1,⟨fun k =>by have:=c2.1 k; omega,fun k =>c2.2 (by omega)⟩,c3⟩
 ·have key:x∈a.hd i:=by
   by_cases hi:i=m
   ·subst hi; simp only [abb] at hx; exact hl x hx
   ·simp only [acp hi] at hx; exact hx
  have:=h.hd i x key
  exact ⟨this.1,by simp only [ach (hne this.2 (by intro k; cases k))]; exact this.2⟩
 ·by_cases hi:i=m
  ·subst hi; simp only [abb]; exact hn
  ·simp only [acp hi]; exact h.nd i
 ·by_cases hi:i=m
  ·subst hi; simp only [abb]; exact ⟨hok,by simp only [aid]⟩
  ·simp only [acp hi]
   have hv:=h.ph i
   cases hq:a.ph i with
   | n =>trivial
   | p x =>rw [hq] at hv; exact ⟨hv.1,by simp only [ach (hne hv.2 (by intro k; cases k))]; exact hv.2⟩
   | q x =>rw [hq] at hv; exact ⟨hv.1,by simp only [ach (hne hv.2 (by intro k; cases k))]; exact hv.2⟩
   | j x u =>rw [hq] at hv; exact ⟨hv.1,by simp only [ach (hne (h.hd i x hv.1).2 (by intro k; cases k))]; exact hv.2⟩
   | b x u =>rw [hq] at hv; exact ⟨hv.1,by simp only [ach (hne hv.2.1 (by intro k; cases k))]; exact hv.2.1,by simp only [ach (hne hv.2.1 (by intro k; cases k))]; exact hv.2.2⟩
   | r x =>rw [hq] at hv; exact ⟨hv.1,by simp only [ach (hne hv.2 (by intro k; cases k))]; exact hv.2⟩
   | f x =>rw [hq] at hv; exact ⟨hv.1,by simp only [ach (hne hv.2 (by intro k; cases k))]; exact hv.2⟩
   | g x =>rw [hq] at hv; exact ⟨hv.1,by simp only [ach (hne hv.2.1 (by intro k; cases k))]; exact hv.2.1,fun w hw1 hj =>by
     have:=hv.2.2 w hw1 hj
     simp only [ach (hne this (by intro k; cases k))]; exact this⟩
   | h x w =>rw [hq] at hv; exact ⟨hv.1,by simp only [ach (hne hv.2.1 (by intro k; cases k))]; exact hv.2.1,hv.2.2.1,by simp only [ach (hne hv.2.2.2 (by intro k; cases k))]; exact hv.2.2.2⟩
 ·have ho2:¬ (a.ts u).over:=fun k =>by
   by_cases hut:u=a.N
   ·rw [hut,hfr] at k; exact k
   ·simp only [ach hut] at ho; exact ho k
  have:=h.j1 u w hu hw ho2 hj
  simp only [ach (hne this (by intro k; cases k))]; exact this
 ·have hxN:x≠a.N:=fun k =>by
   rw [k] at hf; simp only [aid] at hf; cases hf
  simp only [ach hxN] at hf
  have:=h.c4 i x hx hf
  have hi:i≠m:=fun k =>by rw [k,hp] at this; cases this
  simp only [acp hi]; exact this
end
section
open Go Go.RowKit
set_option maxRecDepth 100000
variable [Tb]
abbrev Stt (c:Cfg) (e:EnvP) (t:Int):Int:=e.gt (adr (aaE c) t)
abbrev Jo (c:Cfg) (e:EnvP) (t:Int):Int:=e.gt (ag3 (aaE c) t)
abbrev Wt (c:Cfg) (e:EnvP) (t:Int):Int:=e.gt (afJ (aaE c) t)
structure Qs (c:Cfg) (e e':EnvP):Prop where
 st:∀ t,Stt c e' t=Stt c e t
 jo:∀ t,Jo c e' t=Jo c e t
 wa:∀ t,Wt c e' t=Wt c e t
 nx:e'.gt 0=e.gt 0
 rc:e'.recs=e.recs
 ev:∃ l,e'.evs=e.evs++l∧∀ x∈l,11≤x.kind
def N7 (c:Cfg) (a:Int):Prop:=ckC c a≠0∧ckC c a≠7
section
variable {c:Cfg} {e e':EnvP} {a v k o w x:Int}
theorem aCR (h:DecOk c) {t f:Int} (hf:0≤f∧f<5) (hf1:f≠1) (h0:0≤aeH (aaE c) t f):ckC c (aeH (aaE c) t f)=7:=by
 have e1:=aoU h (t:=t) hf
 have e2:=aft h (t:=t) hf
 by_cases ht:0≤t∧t<c.tasks
 ·rw [e1,if_pos ht,if_neg hf1]
 ·rw [e2,if_neg ht] at h0; omega
theorem aHH (h:DecOk c) {t u f g:Int} (hf:0≤f∧f<5) (hg:0≤g∧g<5) (hne:f≠g) (h0:0≤aeH (aaE c) t f):aeH (aaE c) t f≠aeH (aaE c) u g:=by
 have e1:=aft h (t:=t) hf
 have e2:=aft h (t:=u) hg
 intro k
 by_cases ht:0≤t∧t<c.tasks
 ·rw [if_pos ht] at e1
  by_cases hu:0≤u∧u<c.tasks
  ·rw [if_pos hu] at e2; omega
  ·rw [if_neg hu] at e2; omega
 ·rw [e1,if_neg ht] at h0; omega
theorem aE5 (h:DecOk c) (ha:N7 c a) {t f:Int} (hf:0≤f∧f<5) (hf1:f≠1):(e.pt k a v).gt (aeH (aaE c) t f)=e.gt (aeH (aaE c) t f):=by
 rw [ae4,if_neg]
 intro h'
 have:=aCR h (t:=t) hf hf1 (by omega)
 rw [h'.1] at this
 exact ha.2 this
theorem aug (h:DecOk c) {t u f g:Int} (hf:0≤f∧f<5) (hg:0≤g∧g<5) (hne:f≠g):(e.pt k (aeH (aaE c) u g) v).gt (aeH (aaE c) t f)=e.gt (aeH (aaE c) t f):=by
 rw [ae4,if_neg]
 intro h'
 exact aHH h hf hg hne (by omega) h'.1
theorem aC9 (h:DecOk c) {u g:Int} (hg:0≤g∧g<5) (hg1:g≠1):(e.pt k (aeH (aaE c) u g) v).gt 0=e.gt 0:=by
 rw [ae4,if_neg]
 intro h'
 have:=aCR h (t:=u) hg hg1 (by omega)
 rw [← h'.1,afB] at this
 omega
theorem Qs.refl:Qs c e e:=⟨fun _ =>rfl,fun _ =>rfl,fun _ =>rfl,rfl,rfl,[],by simp,fun x hx =>by cases hx⟩
theorem Qs.lk:Qs c e (e.lk a):=⟨fun _ =>akE,fun _ =>akE,fun _ =>akE,akE,rfl,[],by show e.evs=_; simp,fun x hx =>by cases hx⟩
theorem Qs.wr (h:DecOk c) (ha:N7 c a):Qs c e (e.pt k a v) :=
 ⟨fun t =>aE5 h ha (f:=0) (by omega) (by omega),fun t =>aE5 h ha (f:=2) (by omega) (by omega),fun t =>aE5 h ha (f:=3) (by omega) (by omega),by
  rw [ae4,if_neg]
  intro h'
  have:=ha.1
  rw [← h'.1,afB] at this
  exact this rfl,rfl,[],by show e.evs=_; simp,fun x hx =>by cases hx⟩
theorem Qs.since (h:DecOk c) {t:Int}:Qs c e (e.pt k (akL (aaE c) t) v) :=
 ⟨fun t =>aug h (f:=0) (by omega) (by omega) (by omega),fun t =>aug h (f:=2) (by omega) (by omega) (by omega),fun t =>aug h (f:=3) (by omega) (by omega) (by omega),aC9 h (by omega) (by omega),rfl,[],by show e.evs=_; simp,fun x hx =>by cases hx⟩
theorem Qs.cas (h:DecOk c) (ha:N7 c a):Qs c e (e.cas a o v):=Qs.wr h ha
theorem Qs.em {t l:Int} (h:Qs c e e') (hk:11≤k):Qs c e (e'.em k w t o l):=by
 obtain ⟨m,hm,hp⟩:=h.ev
 refine ⟨h.st,h.jo,h.wa,h.nx,h.rc,m++[⟨k,w,t,o,l⟩],by show e'.evs++[_]=_; rw [hm,List.append_assoc],fun x hx =>?_⟩
 rcases List.mem_append.1 hx with hx | hx
 ·exact hp x hx
 ·rw [List.mem_singleton.1 hx]; exact hk
end
def axT (p:Int→Bool) (l:List Ev) (t:Int):Nat:=l.countP fun x =>decide (x.task=t) && p x.kind
def kKn (k:Int):Bool:=decide (k=1∨k=3)
def kSn (k:Int):Bool:=decide (k=5)
def kFn (k:Int):Bool:=decide (k=10)
def rcw (e:EnvP) (t:Int):Int:=if 0≤t then (e.rc t).waiting else -1
def rcs (e:EnvP) (t:Int):Bool:=if 0≤t then (e.rc t).started else false
abbrev Vw:=List Int×Ph
def aAC (c:Cfg) (e:EnvP) (ts:Int→Ts) (vs:Nat→Vw):Ab :=
 ⟨c.tasks,e.gt 0,Stt c e,Jo c e,rcw e,rcs e,axT kKn e.evs,axT kSn e.evs,axT kFn e.evs,ts,fun m =>(vs m).1,fun m =>(vs m).2⟩
structure LI (c:Cfg) (e:EnvP) (vs:Nat→Vw):Prop where
 rl:(e.recs.length:Int)=c.tasks
 la:∃ ts,LA (aAC c e ts vs)
def Lw (c:Cfg) (e e':EnvP) (v v':Vw):Prop:=∀ m vs,vs m=v→LI c e vs→LI c e' (an4 vs m v')
def Mi (x:Ev):Prop:=x.kind≠1∧x.kind≠3∧x.kind≠5∧x.kind≠10
theorem ax0 {α:Type} {f:Nat→α} {m:Nat} {v:α} (h:f m=v):an4 f m v=f:=funext fun j =>by
 unfold an4; split
 ·rename_i k; rw [k,h]
 ·rfl
theorem axp {α:Type} {f:Nat→α} {m:Nat} {v w:α}:an4 (an4 f m v) m w=an4 f m w:=funext fun j =>by
 unfold an4; split<;>rfl
theorem aFB {p:Int→Bool} {l k:List Ev} {t:Int}:axT p (l++k) t=axT p l t+axT p k t:=List.countP_append
theorem aCy {p:Int→Bool} {l:List Ev} {t:Int} (h:∀ x∈l,x.task=t→p x.kind=false):axT p l t=0:=by
 unfold axT
 rw [List.countP_eq_zero]
 intro x hx
 by_cases k:x.task=t
 ·rw [h x hx k]; simp
 ·simp [k]
section
variable {c:Cfg} {e e1 e':EnvP} {v v1 v':Vw}
theorem Lw.trans (h1:Lw c e e1 v v1) (h2:Lw c e1 e' v1 v'):Lw c e e' v v':=fun m vs hv h =>by
 have:=h2 m _ abb (h1 m vs hv h)
 rw [axp] at this
 exact this
structure Of1 (c:Cfg) (e e':EnvP) (t:Int):Prop where
 st:∀ x,x≠t→Stt c e' x=Stt c e x
 jo:∀ x,Jo c e' x=Jo c e x
 nx:e'.gt 0=e.gt 0
 rl:e'.recs.length=e.recs.length
 rc:∀ x,x≠t→0≤x→e'.rc x=e.rc x
 ev:∃ l,e'.evs=e.evs++l∧∀ y∈l,y.task=t∨Mi y
theorem aIR {x:Ev} (h:Mi x):kKn x.kind=false:=by unfold kKn; rw [decide_eq_false_iff_not]; unfold Mi at h; omega
theorem aIQ {x:Ev} (h:Mi x):kSn x.kind=false:=by unfold kSn; rw [decide_eq_false_iff_not]; unfold Mi at h; omega
theorem aIS {x:Ev} (h:Mi x):kFn x.kind=false:=by unfold kFn; rw [decide_eq_false_iff_not]; unfold Mi at h; omega
theorem aHS {p:Int→Bool} (hp:∀ x,Mi x→p x.kind=false) {l k:List Ev} (hk:∀ x∈k,Mi x) {t:Int}:axT p (l++k) t=axT p l t:=by
 rw [aFB,aCy fun x hx _ =>hp x (hk x hx),Nat.add_zero]
theorem ayn (h1:∀ t,Stt c e' t=Stt c e t) (h2:∀ t,Jo c e' t=Jo c e t) (h3:e'.gt 0=e.gt 0) (h4:e'.recs=e.recs) (h5:∃ l,e'.evs=e.evs++l∧∀ x∈l,Mi x) (ts:Int→Ts) (vs:Nat→Vw):aAC c e' ts vs=aAC c e ts vs:=by
 obtain ⟨l,hl,hm⟩:=h5
 have e1:Stt c e'=Stt c e:=funext h1
 have e2:Jo c e'=Jo c e:=funext h2
 have e3:rcw e'=rcw e:=funext fun t =>by unfold rcw EnvP.rc; rw [h4]
 have e4:rcs e'=rcs e:=funext fun t =>by unfold rcs EnvP.rc; rw [h4]
 have e5:∀ {q:Int→Bool},(∀ x,Mi x→q x.kind=false)→axT q e'.evs=axT q e.evs:=fun {q} hq =>funext fun t =>by rw [hl,aHS hq hm]
 unfold aAC
 rw [e1,e2,h3,e3,e4,e5 fun x =>aIR,e5 fun x =>aIQ,e5 fun x =>aIS]
theorem Qs.mi (h:Qs c e e'):∃ l,e'.evs=e.evs++l∧∀ x∈l,Mi x:=by
 obtain ⟨l,hl,hm⟩:=h.ev
 exact ⟨l,hl,fun x hx =>by have:=hm x hx; unfold Mi; omega⟩
theorem aFJ {ts:Int→Ts} {vs:Nat→Vw} {m:Nat} {w:Vw}:aAC c e ts (an4 vs m w)={ aAC c e ts vs with hd:=an4 (fun m =>(vs m).1) m w.1,ph:=an4 (fun m =>(vs m).2) m w.2 }:=by
 unfold aAC
 congr 1
 ·funext j; unfold an4; split<;>rfl
 ·funext j; unfold an4; split<;>rfl
theorem aDA {l:List Int} {p:Ph} (hl:∀ x∈l,x∈v.1) (hn:v.1.Nodup→l.Nodup) (hf:∀ x,v.2=.f x→p=.f x)
  (H:∀ (a:Ab) (m:Nat),LA a→a.T=c.tasks→a.J=Jo c e→a.wa=rcw e→a.hd m=v.1→a.ph m=v.2→a.phOk m l p):Lw c e e v (l,p):=fun m vs hv h =>by
 obtain ⟨rl,ts,la⟩:=h
 have e1:(aAC c e ts vs).hd m=v.1:=by show (vs m).1=_; rw [hv]
 have e2:(aAC c e ts vs).ph m=v.2:=by show (vs m).2=_; rw [hv]
 refine ⟨rl,ts,?_⟩
 rw [aFJ]
 exact la.step (fun x hx =>by rw [e1]; exact hl x hx) (hn (by rw [← e1]; exact la.nd m)) (fun x hx =>hf x (by rw [← e2]; exact hx)) (H _ m la rfl rfl rfl e1 e2)
theorem Lw.env {e0:EnvP} (h:∀ ts vs,aAC c e' ts vs=aAC c e ts vs) (hr:e'.recs.length=e.recs.length) (hv:Lw c e0 e v v'):Lw c e0 e' v v':=fun m vs hm hl =>by
 obtain ⟨rl,ts,la⟩:=hv m vs hm hl
 exact ⟨by rw [hr]; exact rl,ts,by rw [h]; exact la⟩
theorem Lw.refl:Lw c e e v v:=fun m vs hv h =>by rw [ax0 hv]; exact h
theorem Lw.q (h:Qs c e e') (hv:Lw c e e v v'):Lw c e e' v v':=hv.env (ayn h.st h.jo h.nx h.rc h.mi) (by rw [h.rc])
theorem Lw.em {e0:EnvP} {k w t o x:Int} (hk:k≠1∧k≠3∧k≠5∧k≠10) (hv:Lw c e0 e v v'):Lw c e0 (e.em k w t o x) v v' :=
 Lw.env (e:=e) (e':=e.em k w t o x) (ayn (fun _ =>rfl) (fun _ =>rfl) rfl rfl ⟨[⟨k,w,t,o,x⟩],rfl,fun y hy =>by rw [List.mem_singleton.1 hy]; exact hk⟩) rfl hv
theorem Lw.drop {l:List Int} (hl:∀ x∈l,x∈v.1) (hn:v.1.Nodup→l.Nodup) (hf:∀ x,v.2≠.f x):Lw c e e v (l,.n) :=
 aDA hl hn (fun x h =>absurd h (hf x)) fun a m la hT hJ hw hh hp =>trivial
end
section
variable {c:Cfg} {e e1 e':EnvP} {v v1 v':Vw} {t u k x:Int}
theorem Of1.em {w o y:Int} (h:Of1 c e e' t) (hk:u=t∨(k≠1∧k≠3∧k≠5∧k≠10)):Of1 c e (e'.em k w u o y) t:=by
 obtain ⟨m,hm,hp⟩:=h.ev
 refine ⟨h.st,h.jo,h.nx,h.rl,h.rc,m++[⟨k,w,u,o,y⟩],by show e'.evs++[_]=_; rw [hm,List.append_assoc],fun x hx =>?_⟩
 rcases List.mem_append.1 hx with hx | hx
 ·exact hp x hx
 ·rw [List.mem_singleton.1 hx]; exact hk
theorem aGC {r:RecP} (ht:0≤t) (hx:x≠t) (h0:0≤x):(e.pr t r).rc x=e.rc x:=by
 show atL _ (e.recs.set t.toNat r) x=atL _ e.recs x
 unfold atL
 rw [List.getElem?_set_ne (by omega)]
theorem Of1.pr {r:RecP} (h:Of1 c e e' t) (ht:TOk c t):Of1 c e (e'.pr t r) t :=
 ⟨h.st,h.jo,h.nx,by show (e'.recs.set _ _).length=_; rw [List.length_set]; exact h.rl,fun x hx h0 =>by rw [aGC ht.1 hx h0]; exact h.rc x hx h0,h.ev⟩
theorem Of1.wt (h:Of1 c e e' t) (hd:DecOk c):Of1 c e (e'.pt k (afJ (aaE c) u) x) t :=
  ⟨fun y hy =>by rw [show Stt c (e'.pt k (afJ (aaE c) u) x) y=Stt c e' y from aug hd (f:=0) (by omega) (by omega) (by omega)]; exact h.st y hy,
   fun y =>by rw [show Jo c (e'.pt k (afJ (aaE c) u) x) y=Jo c e' y from aug hd (f:=2) (by omega) (by omega) (by omega)]; exact h.jo y,
   by rw [show (e'.pt k (afJ (aaE c) u) x).gt 0=e'.gt 0 from aC9 hd (by omega) (by omega)]; exact h.nx,h.rl,h.rc,h.ev⟩
section
variable {l:List Int}
end
end
def vwR (r:RunS):Vw:=match r.c with
 | .next =>(r.stack,.n)
 | .s2 _ =>(r.stack,.p r.id)
 | .s3 _ =>(r.stack,.n)
 | .s4 _ =>(r.stack,.n)
 | .s5 =>(r.stack,.n)
 | .j2 =>(r.stack,.j (aaO r.stack) r.child)
 | .j3 =>(r.stack.dropLast,.b (aaO r.stack) r.child)
 | .j4 =>(r.stack.dropLast,.n)
 | .j5 _ =>(r.stack.dropLast,.n)
 | .j6 =>(r.stack.dropLast,.r (aaO r.stack))
 | .j7 =>(r.stack,.n)
 | .f2 =>(r.stack.dropLast,.f (aaO r.stack))
 | .f3 =>(r.stack.dropLast,.g (aaO r.stack))
 | .f4 .l1 =>(r.stack.dropLast,.h (aaO r.stack) r.waiter)
 | .f4 .l2 =>(r.stack.dropLast,.h (aaO r.stack) r.waiter)
 | .f4 .l3 =>(r.stack.dropLast,.n)
 | .f4 (.l4 _ _) =>(r.stack.dropLast,.n)
 | .f5 _ _ =>(r.stack.dropLast,.n)
 | .f6 =>(r.stack.dropLast,.n)
def vwO:Rs RunS→Vw
 | .go r =>vwR r
 | .fin _ _ =>([],.n)
section
variable {c:Cfg} {e e':EnvP} {w:Int} {v:Vw}
def aIu (c:Cfg) (e:EnvP) (v:Vw) (o:Rs RunS×EnvP):Prop:=Lw c e o.2 v (vwO o.1)∧o.1.Q (fun r =>r.stack≠[]) fun _ _ =>True
theorem aIu.ite {P:Prop} [Decidable P] {a b:Rs RunS×EnvP} (h1:P→aIu c e v a) (h2:¬ P→aIu c e v b):aIu c e v (if P then a else b):=by
 split
 ·exact h1 ‹_›
 ·exact h2 ‹_›
def vwW (k:WorkS):Vw:=match k.c with
 | .t7 s =>vwR s
 | _ =>([],.n)
def aH2 (k:WorkS):Prop:=match k.c with
 | .t7 s =>s.stack≠[]
 | _ =>True
def auK (c:Cfg) (e:EnvP) (v:Vw) (o:WorkS×EnvP):Prop:=Lw c e o.2 v (vwW o.1)∧aH2 o.1
theorem auK.ite {P:Prop} [Decidable P] {a b:WorkS×EnvP} (h1:P→auK c e v a) (h2:¬ P→auK c e v b):auK c e v (if P then a else b):=by
 split
 ·exact h1 ‹_›
 ·exact h2 ‹_›
theorem auK.ite1 {P:Prop} [Decidable P] {a b:WorkS} {e':EnvP} (h1:P→auK c e v (a,e')) (h2:¬ P→auK c e v (b,e')):auK c e v (if P then a else b,e'):=by
 split
 ·exact h1 ‹_›
 ·exact h2 ‹_›
end
section
variable {c:Cfg} {N:Nat} {e e':EnvP} {vs:Nat→Vw} {w:WorkerV MV} {l:ClientV MV} {v:Vw}
theorem Rz.nx (h:Rz c e e'):e'.gt 0=e.gt 0:=by
 rcases h with h | ⟨t,v,h⟩
 ·exact h.nx
 ·exact h.nx
theorem Rz.evs (h:Rz c e e'):∃ l,e'.evs=e.evs++l:=by
 rcases h with h | ⟨t,v,h⟩
 ·obtain ⟨l,hl,_⟩:=h.ev; exact ⟨l,hl⟩
 ·obtain ⟨k,w,o,l,_,hl,_⟩:=h.ev; exact ⟨_,hl⟩
theorem Tr.nx {p q:ars} (h:Tr c e e' p q) (h0:0≤e.gt 0∧e.gt 0≤1000000):e'.gt 0≤e.gt 0+1:=by
 have al:∀ {e':EnvP},Al c e e'→e'.gt 0≤e.gt 0+1:=fun h =>by
  rcases h.nx with k | k
  ·rw [k,ae9 (by omega)]; omega
  ·omega
 cases h with
 | same _ h =>rw [h.nx]; omega
 | drop _ h =>rw [h.nx]; omega
 | al h =>exact al h
 | al1 _ h =>exact al h.a
 | w0 _ _ h =>rw [h.nx]; omega
 | an _ _ h =>rw [h.nx]; omega
theorem Tr.evs {p q:ars} (h:Tr c e e' p q):∃ l,e'.evs=e.evs++l:=by
 cases h with
 | same _ h =>exact h.evs
 | drop _ h =>exact h.evs
 | al h =>obtain ⟨l,hl,_⟩:=h.ev; exact ⟨l,hl⟩
 | al1 _ h =>obtain ⟨l,hl,_⟩:=h.a.ev; exact ⟨l,hl⟩
 | w0 _ _ h =>exact ⟨[],by rw [h.ev]; simp⟩
 | an _ _ h =>obtain ⟨l,k,w,o,_,_,hl⟩:=h.ev; exact ⟨_,by rw [hl,List.append_assoc]⟩
structure DL (c:Cfg) (N:Nat) (e:EnvP) (vs:Nat→Vw):Prop where
 ei:EI c (1+3*N) e
 m:MI c e
 n:(e.m.cells.length:Int)=aa9 c
 nx:e.gt 0≤N
 li:LI c e vs
def WL (c:Cfg) (N:Nat) (j:Int) (w:WorkerV MV) (v:Vw):Prop:=∃ k,w=aen (aaE c) j k∧aib (1+3*N) (mnC c) k∧avU c k∧aH2 k∧vwW k=v
theorem WL.next {j:Int} (hw:WL c N j w v):WL c (N+1) j w v:=by
 obtain ⟨k,h1,h2,h3⟩:=hw
 exact ⟨k,h1,h2.up (by omega),h3⟩
theorem DL.next (h:DL c N e vs):DL c (N+1) e vs:=⟨h.ei.up (by omega),h.m,h.n,by have:=h.nx; omega,h.li⟩
theorem DL.clk {k:ClkV} (h:DL c N e vs):DL c N { e with k:=k } vs:=by
 obtain ⟨rl,ts,la⟩:=h.li
 exact ⟨h.ei.clk,h.m.ex,h.n,h.nx,rl,ts,la⟩
theorem DL.stp (h:DL c N e vs) (hN:N≤100000) (s:Stp 2 e e') {p q:ars} (t:Tr c e e' p q) {m:Nat} {v':Vw} (x:Lw c e e' (vs m) v'):DL c (N+1) e' (an4 vs m v'):=by
 have s1:=h.ei.stp (by omega) s
 have en:1+3*N+3=1+3*(N+1):=by omega
 rw [en] at s1
 have h0:=h.m.p 0
 have h1:=h.nx
 have h2:=t.nx ⟨h0,by omega⟩
 exact ⟨s1,t.i,by rw [(ay9 s.m h.ei.ct (by omega)).2]; exact h.n,by omega,x m vs rfl h.li⟩
theorem aAh (h:DecOk c):((arh c).m.cells.length:Int)=aa9 c:=by
 show ((List.replicate (aa9 c).toNat (0:Int)).length:Int)=_
 have:=ahD h
 have h4:=h.h
 have h5:=h.t
 rw [List.length_replicate]
 have:0≤aa9 c:=by unfold aa9; omega
 omega
structure EngI (c:Cfg) (I:Nat→EnvP→List (WorkerV MV)→ClientV MV→Prop):Prop where
 w:∀ {N:Nat} {e:EnvP} {ws:List (WorkerV MV)} {cl:ClientV MV} {j:Nat} {w:WorkerV MV},I N e ws cl→N≤100000→ws[j]?=some w→aaP (aah w e) fun o =>I (N+1) o.2.2.1 (ws.set j o.2.1) cl∧∃ l,o.2.2.1.evs=e.evs++l
 c:∀ {N:Nat} {e:EnvP} {ws:List (WorkerV MV)} {cl:ClientV MV},I N e ws cl→N≤100000→aaP (aap cl e) fun o =>I (N+1) o.2.2.1 ws o.2.1∧∃ l,o.2.2.1.evs=e.evs++l
 n:∀ {N:Nat} {e:EnvP} {ws:List (WorkerV MV)} {cl:ClientV MV},I N e ws cl→I (N+1) e ws cl
 k:∀ {N:Nat} {e:EnvP} {ws:List (WorkerV MV)} {cl:ClientV MV} {k:ClkV},I N e ws cl→I N { e with k:=k } ws cl
 ev:∀ {N:Nat} {e:EnvP} {ws:List (WorkerV MV)} {cl:ClientV MV},I N e ws cl→e.evs.length≤1+3*N
theorem aDa {α:Type} {ws:List α} {j:Nat} {w:α} (h:ws[j]?=some w):j<ws.length:=by
 rcases Nat.lt_or_ge j ws.length with k | k
 ·exact k
 ·rw [List.getElem?_eq_none k] at h; cases h
end
structure DH (c:Cfg) (N:Nat) (e:EnvP) (bs:Nat→Bool):Prop where
 ei:EI c (1+3*N) e
 m:MI c e
 n:(e.m.cells.length:Int)=aa9 c
 lk:∀ m,bs m=true→e.gt 1=(m:Int)+1
structure QC (c:Cfg) (N:Nat) (e:EnvP) (bs:Nat→Bool) (ps:Nat→Pz) (q:List QK) (a:Int):Prop where
 ab:0≤a∧a≤N
 h:∀ m,bs m=true→QH c e q a (ps m)
 z:(∀ m,bs m=false)→QH c e q a .rest
def WKh (c:Cfg) (N:Nat) (j:Int) (w:WorkerV MV) (b:Bool) (p:Pz):Prop:=∃ k,w=aen (aaE c) j k∧aib (1+3*N) (mnC c) k∧avU c k∧ajL k.c=b∧phW k.c=p
def CKh (c:Cfg) (l:ClientV MV) (b:Bool) (p:Pz):Prop:=∃ k,l=asT c.subs c.workers k∧aCN c k∧aqP k.c=b∧phC c.subs k=p
def HI (c:Cfg) (N:Nat) (e:EnvP) (ws:List (WorkerV MV)) (cl:ClientV MV):Prop :=
 ∃ bs ps q a,DH c N e bs∧QC c N e bs ps q a∧(∀ (j:Nat) w,ws[j]?=some w→WKh c N j w (bs j) (ps j))∧CKh c cl (bs ws.length) (ps ws.length)∧(ws.length:Int)=c.workers
section
variable {c:Cfg} {N:Nat} {e e':EnvP} {bs:Nat→Bool} {ps:Nat→Pz} {q:List QK} {a:Int} {w:WorkerV MV} {l:ClientV MV} {b b':Bool} {p p':Pz}
theorem WKh.next {j:Int} (hw:WKh c N j w b p):WKh c (N+1) j w b p:=by
 obtain ⟨k,h1,h2,h3⟩:=hw
 exact ⟨k,h1,h2.up (by omega),h3⟩
theorem DH.next (h:DH c N e bs):DH c (N+1) e bs:=⟨h.ei.up (by omega),h.m,h.n,h.lk⟩
theorem DH.clk {k:ClkV} (h:DH c N e bs):DH c N { e with k:=k } bs:=⟨h.ei.clk,h.m.ex,h.n,h.lk⟩
theorem QC.next (h:QC c N e bs ps q a):QC c (N+1) e bs ps q a:=⟨by have:=h.ab; omega,h.h,h.z⟩
theorem QH.clk {k:ClkV} (h:QH c e q a p):QH c { e with k:=k } q a p:=⟨h.r,h.h⟩
theorem QC.clk {k:ClkV} (h:QC c N e bs ps q a):QC c N { e with k:=k } bs ps q a:=⟨h.ab,fun m hm =>(h.h m hm).clk,fun hm =>(h.z hm).clk⟩
theorem aEM {m:Nat} (hc:1≤c.heap) (hm:(m:Int)≤1000) (h:∀ i,bs i=true→e.gt 1=(i:Int)+1) (t:Kh c m e e' (bs m) p b' p'):∀ i,an4 bs m b' i=true→e'.gt 1=(i:Int)+1:=by
 intro i hi
 generalize hb:bs m=b at t
 by_cases him:i=m
 ·subst him
  rw [abb] at hi
  cases t with
  | free _ =>cases hi
  | acq h0 h1 h2 =>rw [h1,aaw (aai (by omega)),ae9 (by omega)]
  | rel h1 h2 =>cases hi
  | hold h1 =>rw [h1]; exact h i hb
 ·rw [acp him] at hi
  have hq:=h i hi
  cases t with
  | free h1 =>rw [h1.g 1 (by omega) (by omega)]; exact hq
  | acq h0 h1 h2 =>omega
  | rel h1 h2 =>have:=h m hb; omega
  | hold h1 =>rw [h1]; exact hq
theorem QC.step {m:Nat} (hc:1≤c.heap) (hN:N≤100000) (h:∀ i,bs i=true→e.gt 1=(i:Int)+1) (hq:QC c N e bs ps q a) (t:Kh c m e e' (bs m) (ps m) b' p'):∃ q' a',QC c (N+1) e' (an4 bs m b') (an4 ps m p') q' a':=by
 have ha:=hq.ab
 have h1:=hq.h m
 have hz:=hq.z
 generalize hb:bs m=b at t h1
 generalize hp:ps m=p at t h1
 have only:bs m=true→∀ i,i≠m→bs i=false:=fun hm i hi =>by
  cases hbi:bs i with
  | false =>rfl
  | true =>have e1:=h m hm; have e2:=h i hbi; omega
 cases t with
 | free hs =>
  refine ⟨q,a,by omega,fun i hi =>?_,fun hf =>(hz fun i =>?_).qn hc hs.n⟩
  ·by_cases him:i=m
   ·subst him; rw [abb] at hi; cases hi
   ·rw [acp him] at hi; rw [acp him]; exact (hq.h i hi).qn hc hs.n
  ·by_cases him:i=m
   ·rw [him]; exact hb
   ·have:=hf i; rw [acp him] at this; exact this
 | acq h0 _ hn hpp =>
  have hf:∀ i,bs i=false:=fun i =>by
   cases hbi:bs i with
   | false =>rfl
   | true =>have:=h i hbi; omega
  have hr:=(hz hf).qn hc hn
  refine ⟨q,a,by omega,fun i hi =>?_,fun hf2 =>?_⟩
  ·by_cases him:i=m
   ·subst him
    rw [abb]
    rcases hpp with e | e
    ·rw [e]; exact hr
    ·rw [e]; exact ⟨hr.r,hr.h⟩
   ·rw [acp him,hf i] at hi; cases hi
  ·have:=hf2 m; rw [abb] at this; cases this
 | rel _ hn =>
  have hr:=(h1 rfl).qn hc hn
  refine ⟨q,a,by omega,fun i hi =>?_,fun _ =>hr⟩
  by_cases him:i=m
  ·subst him; rw [abb] at hi; cases hi
  ·rw [acp him,only hb i him] at hi; cases hi
 | hold _ hk =>
  obtain ⟨q',a',h2,h3⟩:=hk q a ha.1 (by omega) (h1 rfl)
  refine ⟨q',a',by omega,fun i hi =>?_,fun hf2 =>?_⟩
  ·by_cases him:i=m
   ·subst him; rw [abb]; exact h3
   ·rw [acp him,only hb i him] at hi; cases hi
  ·have:=hf2 m; rw [abb] at this; cases this
theorem DH.stp (h:DH c N e bs) (hN:N≤100000) (s:Stp 2 e e') {m:Nat} {x y:ars} (hm:(m:Int)≤1000) (t:Tr c e e' x y) (k:Kh c m e e' (bs m) p b' p'):DH c (N+1) e' (an4 bs m b'):=by
 have s1:=h.ei.stp (by omega) s
 have en:1+3*N+3=1+3*(N+1):=by omega
 rw [en] at s1
 exact ⟨s1,t.i,by rw [(ay9 s.m h.ei.ct (by omega)).2]; exact h.n,aEM h.m.d.h.1 hm h.lk k⟩
theorem amn:EngI c (HI c) where
 w {N e ws cl j w} h hN hj:=by
  obtain ⟨bs,ps,q,a,h1,hq,h2,h3,hlen⟩:=h
  have hl:=aDa hj
  obtain ⟨k,rfl,hk,hg,hv,hv2⟩:=h2 j w hj
  rw [← h1.ei.many] at hk
  have hw4:=h1.m.d.w
  have s1:=aAS (w:=(j:Int)) h1.ei.ok (by omega) k hk
  have s2:=aDm (w:=(j:Int)) h1.ei.ok k
  have s3:=aDl (w:=(j:Int)) h1.ei.ok k hk (by omega)
  have s4:=aF8 (w:=(j:Int)) h1.m h1.n hg
  have s5:=aF9 (w:=(j:Int)) h1.m h1.n hg
  rw [h1.ei.many] at s3
  rw [h1.ei.l] at s1
  rw [hv,hv2] at s5
  obtain ⟨q',a',hq'⟩:=hq.step h1.m.d.h.1 hN h1.lk s5
  refine ⟨_,s1,⟨_,_,q',a',h1.stp hN s2 (by omega) s4.1 s5,hq',fun i u hu =>?_,?_,by rw [List.length_set]; exact hlen⟩,s4.1.evs⟩
  ·by_cases hij:i=j
   ·subst hij
    rw [List.getElem?_set_self hl] at hu
    rw [abb,abb,← Option.some.inj hu]
    exact ⟨_,rfl,s3.up (by omega),s4.2,rfl,rfl⟩
   ·rw [List.getElem?_set_ne (fun k =>hij k.symm)] at hu
    rw [acp hij,acp hij]
    exact (h2 i u hu).next
  ·rw [List.length_set,acp (by omega),acp (by omega)]
   exact h3
 c {N e ws cl} h hN:=by
  obtain ⟨bs,ps,q,a,h1,hq,h2,h3,hlen⟩:=h
  obtain ⟨k,rfl,hk,hv,hv2⟩:=h3
  have hw4:=h1.m.d.w
  have s1:=aCD (subs:=c.subs) (me:=c.workers) h1.ei.ok (by omega) k hk.1
  have s2:=aFF (subs:=c.subs) (me:=c.workers) h1.ei.ok k
  have s4:=aHT (me:=c.workers) h1.m h1.n hk
  have s5:Kh c (ws.length:Int) e (anq c.subs c.workers e k).2.2 (bs ws.length) (ps ws.length) (aqP (anq c.subs c.workers e k).2.1.c) (phC c.subs (anq c.subs c.workers e k).2.1):=by
   have k0:=aHU (me:=c.workers) h1.m h1.n hk
   rw [hv,hv2] at k0
   rw [hlen]
   exact k0
  obtain ⟨q',a',hq'⟩:=hq.step h1.m.d.h.1 hN h1.lk s5
  refine ⟨_,s1,⟨_,_,q',a',h1.stp (m:=ws.length) hN s2 (by omega) s4.1 s5,hq',fun i u hu =>?_,?_,hlen⟩,s4.1.evs⟩
  ·have:=aDa hu
   rw [acp (by omega),acp (by omega)]; exact (h2 i u hu).next
  ·rw [abb,abb]
   exact ⟨_,rfl,s4.2,rfl,rfl⟩
 n {N e ws cl} h:=by
  obtain ⟨bs,ps,q,a,h1,hq,h2,h3,hlen⟩:=h
  exact ⟨bs,ps,q,a,h1.next,hq.next,fun i u hu =>(h2 i u hu).next,h3,hlen⟩
 k {N e ws cl k} h:=by
  obtain ⟨bs,ps,q,a,h1,hq,h2,h3,hlen⟩:=h
  exact ⟨bs,ps,q,a,h1.clk,hq.clk,h2,h3,hlen⟩
 ev {N e ws cl} h:=by
  obtain ⟨bs,ps,q,a,h1,hq,h2,h3,hlen⟩:=h
  exact h1.ei.ok.ev
theorem awW (h:DecOk c) {ws:List (WorkerV MV)} (hlen:(ws.length:Int)=c.workers) (hw:∀ (j:Nat) w,ws[j]?=some w→w=aen (aaE c) j ⟨0,0,0,0,.top⟩):HI c 0 (arh c) ws (asT c.subs c.workers ⟨0,0,false,.n1⟩):=by
 have hh:=h.h
 have r0:QH c (arh c) [] 0 .rest:=⟨rfl,⟨SQ.nil,azv,azv,by show (0:Int)≤c.heap; omega,fun j _ b =>absurd b (Nat.not_lt_zero _),fun x =>rfl⟩⟩
 refine ⟨fun _ =>false,fun _ =>.rest,[],0,⟨aHM h,aHe h,aAh h,fun m k =>(by cases k)⟩,⟨⟨Int.le_refl 0,Int.le_refl 0⟩,fun m k =>(by cases k),fun _ =>r0⟩,fun j w hj =>by rw [hw j w hj]; exact ⟨_,rfl,trivial,trivial,rfl,rfl⟩,⟨_,rfl,⟨Int.le_refl 0,trivial⟩,rfl,rfl⟩,hlen⟩
theorem aJO {ws:List (WorkerV MV)} {cl:ClientV MV} (h:HI c N e ws cl):∃ q a,akO c ([],0) e.evs=some (q,a)∧SQ q a∧(q.length:Int)≤c.heap∧(0≤a∧a≤N)∧(e.m.cells.length:Int)=aa9 c∧(e.gt 1=0→RestV c (ivE c e) q a):=by
 obtain ⟨bs,ps,q,a,h1,hq,h2,h3,hlen⟩:=h
 have any:∀ p,QH c e q a p→SQ q a∧(q.length:Int)≤c.heap:=fun p z =>by
  have zh:=z.h
  cases p with
  | rest =>exact ⟨zh.sq,zh.h⟩
  | adm =>exact ⟨zh.1.sq,zh.1.h⟩
  | ins D T s =>
   cases s with
   | l1 =>exact ⟨zh.1.sq,zh.1.h⟩
   | l2 m =>exact ⟨zh.1.sq,zh.1.h⟩
   | l3 m i k x =>obtain ⟨_,j,_,_,u⟩:=zh; exact ⟨u.sq,Int.le_of_lt u.h⟩
   | l4 m i k x =>obtain ⟨_,j,_,_,u,_⟩:=zh; exact ⟨u.sq,Int.le_of_lt u.h⟩
   | l5 m i k x =>obtain ⟨_,j,_,u,_⟩:=zh; exact ⟨u.sq,Int.le_of_lt u.h⟩
   | l6 m i k x =>exact ⟨zh.2.2.1,Int.le_of_lt zh.2.2.2.2.1⟩
  | rem s =>
   cases s with
   | l1 =>exact ⟨RestV.sq zh,RestV.h zh⟩
   | l2 m =>exact ⟨zh.1.sq,zh.1.h⟩
   | l3 m x =>exact ⟨zh.1.sq,zh.1.h⟩
   | l4 m x y =>exact ⟨zh.1.sq,zh.1.h⟩
   | l5 m i c0 x y z =>obtain ⟨j,_,u,_⟩:=zh; exact ⟨u.sq,u.h⟩
   | l6 m i c0 x y z =>obtain ⟨j,_,u,_⟩:=zh; exact ⟨u.sq,u.h⟩
   | l7 m i c0 x y z =>obtain ⟨j,_,_,u,_⟩:=zh; exact ⟨u.sq,u.h⟩
   | l8 m i c0 x y z =>obtain ⟨j,_,u,_⟩:=zh; exact ⟨u.sq,u.h⟩
 by_cases hf:∃ m,bs m=true
 ·obtain ⟨m,hm⟩:=hf
  have z:=hq.h m hm
  have z2:=any _ z
  refine ⟨q,a,z.r,z2.1,z2.2,hq.ab,h1.n,fun h0 =>?_⟩
  have:=h1.lk m hm
  omega
 ·have hf:∀ m,bs m=false:=fun m =>by
   cases hb:bs m with
   | false =>rfl
   | true =>exact absurd ⟨m,hb⟩ hf
  have z:=hq.z hf
  have z2:=any _ z
  exact ⟨q,a,z.r,z2.1,z2.2,hq.ab,h1.n,fun _ =>z.h⟩
end
end
end Go.Proofs.YtdnimkpfgjcjeaaGreat
