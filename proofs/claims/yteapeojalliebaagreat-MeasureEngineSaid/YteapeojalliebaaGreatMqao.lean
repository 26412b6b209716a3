/- The program's machines do what was said plainly,7: running a task. The program's machines do what was said plainly,8: workers. The program's machines do what was said plainly,9: the client; what workers and the client leave. What is decoded is valid. The program's environment made anew,at a valid configuration. What is decoded is valid,also with other numbers of tasks and places. An engine: what holds between the entries of a script. The cells of an engine's memory by kinds: what each may hold; what the places of the layout are. -/
import Derived.Test.YteapeojalliebaaGreatMqan
import Derived.Test.YteapeojalliebaaGreatMqam
import Derived.Test.YteapeojalliebaaGreatMqai
set_option linter.all false
namespace Go.Proofs.YteapeojalliebaaGreat
section
open Go Go.RowKit
set_option maxRecDepth 100000
@[reducible] def aGt (l : LayV) (w id lv wt : Int) : RunC → Int × MV
 | .next =>(0,.nil)
 | .s2 s =>(5,.publish (alh id lv s))
 | .s3 s =>(6,.lpush (apt l w lv id s))
 | .s4 s =>(7,.wake (atb w lv s))
 | .s5 =>(8,.claim ⟨o0,w,id⟩)
 | .j2 =>(10,.nil)
 | .j3 =>(11,.nil)
 | .j4 =>(12,.nil)
 | .j5 s =>(13,.walk (aDj l w lv s))
 | .j6 =>(14,.nil)
 | .j7 =>(15,.nil)
 | .f2 =>(17,.nil)
 | .f3 =>(18,.nil)
 | .f4 s =>(19,.enter (azP l w wt s))
 | .f5 v s =>(20,.wake (atb w v s))
 | .f6 =>(21,.claim ⟨o0,w,wt⟩)
@[reducible] def aH6 (l : LayV) (w : Int) (r : RunS) : RunV MV :=
 ⟨o0,w,r.stack,(aGt l w r.id r.level r.waiter r.c).1,(aGt l w r.id r.level r.waiter r.c).2,r.id,r.child,r.level,r.waiter⟩
section
variable [Tb] {K : Nat} {e : EnvP} {w : Int}
theorem ahM {l : LayV} {e' : EnvP} {st : List Int} {ln id ch lv wt : Int} {m : MV} {c : RunC} (hS : SOk st) : aaX RunV.o (aH6 l w) ((aap ⟨⟨false,0,0⟩,w,st,ln,m,id,ch,lv,wt⟩).bind fun r =>some ((r.1.1,()),(r.2.1,e',()))) (agU ⟨st,id,ch,lv,wt,c⟩ e') := by
 have h1 := List.length_pos_iff.2 hS.ne
 have h2 := hS.le
 unfold aap agU
 try simp only [tpI,tlI]
 simp only [tpI,tlI,hS.n,hS.g2,hS.t,if_true,List.length_dropLast,abe,aac,bnd,ach,aa1]
 by_cases hl : st.length = 1
 ·rw [if_pos (by omega),if_pos hl]; exact ⟨_,rfl,rfl⟩
 ·rw [if_neg (by omega),if_neg hl]; rfl
theorem aD1 (hK : EOk K e) (hk : K ≤ 100000000) (r : RunS) (hS : SOk r.stack) : aaX RunV.o (aH6 e.l w) (abm (aH6 e.l w r) e) (as2 w e r) := by
 have hl : e.evs.length ≤ 999999999 := by have := hK.ev; omega
 obtain ⟨st,id,ch,lv,wt,c⟩ := r
 have hS : SOk st := hS
 unfold as2
 by_cases hT : IsT e (aaB st)
 ·have hR : 0 ≤ aaB st ∧ aaB st < (e.recs.length : Int) := ⟨hT.1,by have := hT.2; have := hK.ct; omega⟩
  have hct := hK.ct
  have he : ∀ (x : RunV MV) (e' : EnvP) (_ : e'.evs.length ≤ 999999999) (v : Ev),aaK x e' v = some ((),(x,{ e' with evs := e'.evs ++ [{ v with worker := x.worker }] },())) := fun x e' h v =>amr h
  rw [if_neg (fun h =>h hT)]
  unfold aee
  cases c with
  | next =>
   simp only [aql]
   have hkd : (e.rc (aaB st)).kids.length ≤ 999999999 := by have := aru hR K hK.kd; omega
   have hnx := fun c h =>aBc (w := w) (id := id) (ch := ch) (lv := lv) (wt := wt) (m := .nil) hS hT hct (c := c) h hR
   by_cases c1 : (e.rc (aaB st)).waiting ≠ -1
   ·rw [if_pos c1]
    rw [hnx 1 (by unfold afz; rw [if_pos c1])]
    simp only [Int.reduceEq,if_false,true_or,if_true]
    rw [aDT hS hR]
    rfl
   rw [if_neg c1]
   by_cases c2 : (e.rc (aaB st)).pc < 0 ∨ ((e.prog (e.rc (aaB st))).length : Int) ≤ (e.rc (aaB st)).pc
   ·rw [if_pos c2]
    rw [hnx 16 (by unfold afz; rw [if_neg c1,if_pos c2])]
    simp only [Int.reduceEq,if_false,or_self]
    simp only [tpI,tlI,aas,hS.n,hS.a,hS.g,if_true,ad0,abr,aac,bnd]
    rfl
   rw [if_neg c2]
   by_cases c3 : (acl (e.prog (e.rc (aaB st))) (e.rc (aaB st)).pc).op = 0
   ·rw [if_pos c3]
    rw [hnx 2 (by unfold afz; rw [if_neg c1,if_neg c2,if_pos c3])]
    simp only [Int.reduceEq,if_false,false_or,true_or,or_true,if_true]
    rw [aDS hS hR c2]
    rfl
   rw [if_neg c3]
   by_cases c4 : (acl (e.prog (e.rc (aaB st))) (e.rc (aaB st)).pc).op = 1
   ·rw [if_pos c4]
    rw [hnx 4 (by unfold afz; rw [if_neg c1,if_neg c2,if_neg c3,if_pos c4])]
    obtain ⟨x',h,ho⟩ := aur (e := e)
    simp only [tpI,tlI,if_true,abi,aeT,bnd,h,ads,Bool.not_true,Bool.false_eq_true,if_false]
    by_cases ci : IsT e (wi (e.gt 0))
    ·rw [if_pos ci] at ho ⊢
     have hv : 0 ≤ wi (e.gt 0) ∧ wi (e.gt 0) < ((abV e).recs.length : Int) := ⟨ci.1,by have := ci.2; show _ < (e.recs.length : Int); omega⟩
     have ha := aAq (e := abV e) (o := o0) (w := w) (id := id) (ch := ch) (lv := lv) (wt := wt) (m := .alloc x') hS hR c2 hkd (wi (e.gt 0)) hv
     simp only [ho]
     rw [ha]
     rfl
    ·rw [if_neg ci] at ho ⊢
     have ha := axT (e := abV e) (o := o0) (w := w) (id := id) (ch := ch) (lv := lv) (wt := wt) (m := .alloc x') hS hR c2 hl hkd 0
     simp only [ho]
     rw [ha]
     rfl
   rw [if_neg c4]
   by_cases c5 : (acl (e.prog (e.rc (aaB st))) (e.rc (aaB st)).pc).a < 0 ∨ ((e.rc (aaB st)).kids.length : Int) ≤ (acl (e.prog (e.rc (aaB st))) (e.rc (aaB st)).pc).a ∨ aed (e.rc (aaB st)).kids (acl (e.prog (e.rc (aaB st))) (e.rc (aaB st)).pc).a = -1
   ·rw [if_pos c5]
    rw [hnx 3 (by unfold afz; rw [if_neg c1,if_neg c2,if_neg c3,if_neg c4,if_pos c5])]
    simp only [Int.reduceEq,if_false,false_or,or_true,if_true]
    rw [aDR hS hR]
    rfl
   ·rw [if_neg c5]
    rw [hnx 9 (by unfold afz; rw [if_neg c1,if_neg c2,if_neg c3,if_neg c4,if_neg c5])]
    simp only [Int.reduceEq,if_false,or_self,if_true]
    rw [aIN hS hR c2 (fun h =>c5 (h.elim .inl fun h =>.inr (.inl h)))]
    rfl
  | s2 s =>
   have h := auT (e := e) (t := id) (v := lv) s
   have hn := aqF (e := e) (t := id) (v := lv) s
   simp only [alf hS hT hct (show (4 : Int) ≤ 5 ∧ (5 : Int) ≤ 8 by decide)]
   revert h hn
   simp only [tpI,tlI,abi,aeT,bnd]
   rcases aeX id lv e s with ⟨r | ⟨c,y⟩,e'⟩ <;> intro h hn
   ·simp only [aaX] at h
    simp only [h,bnd,Bool.not_false,if_true]
    rfl
   ·simp only [aaX] at h
    obtain ⟨x',h,ho⟩ := h
    have hl' : e'.evs.length ≤ 999999999 := by have h1 : e'.evs.length ≤ e.evs.length + 0 := hn.ev; have := hK.ev; omega
    simp only [tpI,tlI,h,ho,ads,bnd,Bool.not_true,Bool.false_eq_true,if_false,if_true,Int.reduceEq,hS.n,hS.a,hS.g,he _ e' hl',acB,aac]
    rfl
  | s3 s =>
   have h := ajg (w := w) (v := lv) (x := id) hK s
   simp only [alf hS hT hct (show (4 : Int) ≤ 6 ∧ (6 : Int) ≤ 8 by decide)]
   revert h
   simp only [tpI,tlI,abi,aeT,bnd]
   rcases abt w lv id e s with ⟨r | ⟨c,y⟩,e'⟩ <;> intro h
   ·simp only [aaX] at h
    simp only [h,bnd,Bool.not_false,if_true]
    rfl
   ·simp only [aaX] at h
    obtain ⟨x',h,ho⟩ := h
    simp only [tpI,tlI,h,ho,ads,bnd,Bool.not_true,Bool.false_eq_true,if_false,if_true,Int.reduceEq,acz,acY,aac]
    by_cases hc : c = 3
    ·simp only [hc,if_true]; rfl
    ·simp only [hc,if_false]; rfl
  | s4 s =>
   have h := akV (e := e) (w := w) (v := lv) hl s
   simp only [alf hS hT hct (show (4 : Int) ≤ 7 ∧ (7 : Int) ≤ 8 by decide)]
   revert h
   simp only [tpI,tlI,abi,aeT,bnd]
   rcases ado w lv e s with ⟨r | ⟨c,y⟩,e'⟩ <;> intro h
   ·simp only [aaX] at h
    simp only [h,bnd,Bool.not_false,if_true]
    rfl
   ·simp only [aaX] at h
    obtain ⟨x',h,ho⟩ := h
    simp only [tpI,tlI,h,ho,ads,bnd,Bool.not_true,Bool.false_eq_true,if_false,if_true,Int.reduceEq,aac]
    rfl
  | s5 =>
   obtain ⟨x',h,ho⟩ := al3 (w := w) (t := id) hl hK.st
   simp only [alf hS hT hct (show (4 : Int) ≤ 8 ∧ (8 : Int) ≤ 8 by decide)]
   simp only [tpI,tlI,abi,aeT,bnd,h,ads,Bool.not_true,Bool.false_eq_true,if_false,if_true,Int.reduceEq,aac]
   have hsl : ((st.length + ([id] : List Int).length : Nat) : Int) < 1000000000000 := by
    have h2 : st.length ≤ 999999999 := hS.le
    clear hR hct hl hk hK
    trace_state
    rw [List.length_singleton]
    omega
   rcases Bool.eq_false_or_eq_true (aer id e) with hc | hc
   ·simp only [hc,if_true] at ho ⊢
    simp only [ho,if_true,hsl]
    rfl
   ·simp only [hc,Bool.false_eq_true,if_false] at ho ⊢
    simp only [ho,Int.reduceEq,if_false]
    rfl
  | j2 =>
   simp only [tpI,tlI,ajN hS hT hct (show (9 : Int) ≤ 10 ∧ (10 : Int) ≤ 15 by decide),aaN,hS.n,hS.a,hS.g,if_true,Int.reduceEq,if_false,ad0,abr,aac,bnd]
   rfl
  | j3 =>
   simp only [tpI,tlI,ajN hS hT hct (show (9 : Int) ≤ 11 ∧ (11 : Int) ≤ 15 by decide),aaN,hS.n,hS.a,hS.g,if_true,Int.reduceEq,if_false,arF,ajd,aac,he _ { e with m := e.m.cas (acO e.l ch) 0 (wu (wi (aaB st + 1))) } hl,bnd]
   exact aaX.iteN (fun _ =>rfl) fun _ =>rfl
  | j4 =>
   simp only [tpI,tlI,ajN hS hT hct (show (9 : Int) ≤ 12 ∧ (12 : Int) ≤ 15 by decide),aaN,hS.n,hS.a,hS.g,if_true,Int.reduceEq,if_false,afT,abA,ajy,aac,bnd]
   rfl
  | j5 s =>
   have h := aAJ (w := w) (v := lv) hK hk s
   have hn := ax4 (e := e) (w := w) (v := lv) s
   simp only [ajN hS hT hct (show (9 : Int) ≤ 13 ∧ (13 : Int) ≤ 15 by decide)]
   revert h hn
   simp only [tpI,tlI,aaN,hS.n,hS.a,hS.g,if_true,Int.reduceEq,if_false,aeT,bnd]
   rcases aeR w lv e s with ⟨r | ⟨c,y⟩,e'⟩ <;> intro h hn
   ·simp only [aaX] at h
    simp only [h,bnd,Bool.not_false,if_true]
    rfl
   ·simp only [aaX] at h
    obtain ⟨x',h,ho⟩ := h
    have hl' : e'.evs.length ≤ 999999999 := by have h1 : e'.evs.length ≤ e.evs.length + 1 := hn.ev; have := hK.ev; omega
    simp only [h,bnd,Bool.not_true,Bool.false_eq_true,if_false,he _ e' hl']
    exact ahM hS
  | j6 =>
   simp only [tpI,tlI,ajN hS hT hct (show (9 : Int) ≤ 14 ∧ (14 : Int) ≤ 15 by decide),aaN,hS.n,hS.a,hS.g,if_true,Int.reduceEq,if_false,ad0,abr,aac,bnd]
   rfl
  | j7 =>
   simp only [tpI,tlI,ajN hS hT hct (show (9 : Int) ≤ 15 ∧ (15 : Int) ≤ 15 by decide),aaN,hS.n,hS.a,hS.g,hR,and_self,if_true,Int.reduceEq,if_false,alo,abr,aac,bnd]
   have he2 : ∀ (x : RunV MV) (m' : MemV) (rs : List RecP) (v : Ev),aaK x { e with m := m',recs := rs } v = some ((),(x,{ e with m := m',recs := rs,evs := e.evs ++ [{ v with worker := x.worker }] },())) := fun x m' rs v =>amr (e := { e with m := m',recs := rs }) hl
   rw [he2,bnd]
   rfl
  | f2 =>
   simp only [tpI,tlI,ahG hS hT hct (show (16 : Int) ≤ 17 by decide),aas,hS.n,hS.a,hS.g,if_true,Int.reduceEq,if_false,arF,ajd,aac,he _ { e with m := e.m.cas (acO e.l (aaB st)) 0 4294967296 } hl,bnd]
   refine aaX.ite (fun _ =>?_) fun _ =>rfl
   exact ahM hS
  | f3 =>
   simp only [tpI,tlI,ahG hS hT hct (show (16 : Int) ≤ 18 by decide),aas,hS.n,hS.a,hS.g,if_true,Int.reduceEq,if_false,arF,abA,aac,ahu,bnd]
   by_cases h1 : wi (wi (e.m.gt (acO e.l (aaB st))) - 1) < 0
   ·rw [if_pos h1,if_neg (show ¬ IsT e (wi (wi (e.m.gt (acO e.l (aaB st))) - 1)) from fun h =>by have := h.1; omega)]
    exact ahM hS
   by_cases h2 : e.c.tasks ≤ wi (wi (e.m.gt (acO e.l (aaB st))) - 1)
   ·rw [if_neg h1,if_pos h2,if_neg (show ¬ IsT e (wi (wi (e.m.gt (acO e.l (aaB st))) - 1)) from fun h =>by have := h.2; omega)]
    exact ahM hS
   ·rw [if_neg h1,if_neg h2,if_pos (show IsT e (wi (wi (e.m.gt (acO e.l (aaB st))) - 1)) from ⟨by omega,by omega⟩)]
    rfl
  | f4 s =>
   have h := azO (w := w) (t := wt) hK s
   simp only [ahG hS hT hct (show (16 : Int) ≤ 19 by decide)]
   revert h
   simp only [tpI,tlI,aas,hS.n,hS.a,hS.g,if_true,Int.reduceEq,if_false,aeT,bnd]
   rcases adl w wt e s with ⟨r | ⟨c,y⟩,e'⟩ <;> intro h
   ·simp only [aaX] at h
    simp only [h,bnd,Bool.not_false,if_true]
    rfl
   ·simp only [aaX] at h
    obtain ⟨x',h,ho⟩ := h
    simp only [tpI,tlI,h,ho,ads,bnd,Bool.not_true,Bool.false_eq_true,if_false,if_true,Int.reduceEq,acz,acY,aac]
    by_cases hc : c = 3
    ·simp only [hc,if_true]; rfl
    ·simp only [hc,if_false]; rfl
  | f5 v s =>
   have h := akV (e := e) (w := w) (v := v) hl s
   simp only [ahG hS hT hct (show (16 : Int) ≤ 20 by decide)]
   revert h
   simp only [tpI,tlI,aas,hS.n,hS.a,hS.g,if_true,Int.reduceEq,if_false,aeT,bnd]
   rcases ado w v e s with ⟨r | ⟨c,y⟩,e'⟩ <;> intro h
   ·simp only [aaX] at h
    simp only [h,bnd,Bool.not_false,if_true]
    rfl
   ·simp only [aaX] at h
    obtain ⟨x',h,ho⟩ := h
    simp only [h,ho,ads,bnd,Bool.not_true,Bool.false_eq_true,if_false]
    exact ahM hS
  | f6 =>
   obtain ⟨x',h,ho⟩ := al3 (w := w) (t := wt) hl hK.st
   simp only [ahG hS hT hct (show (16 : Int) ≤ 21 by decide)]
   simp only [tpI,tlI,aas,hS.n,hS.a,hS.g,hS.s,aeT,bnd,h,ads,Bool.not_true,Bool.false_eq_true,if_false,if_true,Int.reduceEq,aac]
   rcases Bool.eq_false_or_eq_true (aer wt e) with hc | hc
   ·simp only [hc,if_true] at ho ⊢
    simp only [ho,if_true]
    rfl
   ·simp only [hc,Bool.false_eq_true,if_false] at ho ⊢
    simp only [ho,Int.reduceEq,if_false]
    exact ahM hS
 ·rw [if_pos hT]
  have hb : aaB st < 0 ∨ e.c.tasks ≤ aaB st := by
   unfold IsT at hT
   omega
  simp only [tpI,tlI,abm,aax,abe,o0,bnd,hS.n,hS.a,hS.g,if_true,Bool.false_eq_true,if_false]
  rcases hb with hb | hb
  ·rw [if_pos hb]; exact ⟨_,rfl,rfl⟩
  ·by_cases h0 : aaB st < 0
   ·rw [if_pos h0]; exact ⟨_,rfl,rfl⟩
   ·rw [if_neg h0,if_pos hb]; exact ⟨_,rfl,rfl⟩
end
@[reducible] def aCC (l : LayV) (w vi lv x : Int) : WorkC → Int × MV
 | .top =>(0,.nil)
 | .t1 t s =>(1,.sweep (agK l w t s))
 | .t2 s =>(2,.take (aDq l w s))
 | .t3 s =>(3,.drain (awP l w s))
 | .t4 s =>(4,.probe (alk w s))
 | .t5 s =>(5,.steal (avU (aaq l vi lv) s))
 | .t6 =>(6,.claim ⟨o0,w,x⟩)
 | .t7 s =>(7,.run (aH6 l w s))
 | .t8 s =>(8,.sleep (ath w s))
 | .t9 s =>(9,.reset (atr (aaC l vi) lv (aaq l vi lv) s))
@[reducible] def acN (l : LayV) (w : Int) (k : WorkS) : WorkerV MV :=
 ⟨w,k.cursor,(aCC l w k.victim k.level k.x k.c).1,(aCC l w k.victim k.level k.x k.c).2,k.victim,k.level,k.x⟩
def aH3 (K : Nat) (r : RunS) : Prop := r.stack ≠ [] ∧ r.stack.length ≤ K
def ahg (K : Nat) (n : Int) (k : WorkS) : Prop := match k.c with
 | .t3 s =>asY s
 | .t4 s =>anh n s
 | .t7 s =>aH3 K s
 | _ =>True
section
variable [Tb] {K : Nat} {e : EnvP} {w : Int}
theorem alM {j : Nat} {e' : EnvP} {r : RunS} (h : Stp j e e') : Stp j e (agU r e').2 := h
theorem aEi {a v t : Int} {r : RecP} (hr : ∀ K,(∀ r ∈ e.recs,r.kids.length ≤ K) → r.kids.length ≤ K + 1) : Stp 0 e ((e.pt 2 a v).pr t r) := Stp.pr (Stp.pt (by decide)) hr
theorem azZ {x : RecP} {i : Ins} : (auc x i).kids = x.kids := by
 unfold auc
 repeat' split
 all_goals rfl
theorem aGr (hK : EOk K e) (r : RunS) : Stp 2 e (as2 w e r).2 := by
 obtain ⟨st,id,ch,lv,wt,c⟩ := r
 unfold as2
 by_cases hT : IsT e (aaB st)
 ·have hR : 0 ≤ aaB st ∧ aaB st < (e.recs.length : Int) := ⟨hT.1,by have := hT.2; have := hK.ct; omega⟩
  have hkid : ∀ K,(∀ r ∈ e.recs,r.kids.length ≤ K) → (e.rc (aaB st)).kids.length ≤ K + 1 := fun K h =>Nat.le_succ_of_le (aru hR K h)
  have hkid1 : ∀ v : Int,∀ K,(∀ r ∈ e.recs,r.kids.length ≤ K) → ((e.rc (aaB st)).kids ++ [v]).length ≤ K + 1 := fun v K h =>by
   have := aru hR K h
   rw [List.length_append,List.length_singleton]; omega
  rw [if_neg (fun h =>h hT)]
  cases c with
  | next =>
   simp only [aee,aql]
   split
   ·exact Stp.le (aEi hkid) (Nat.zero_le _)
   split
   ·exact Stp.le (.pt (by decide)) (by decide)
   split
   ·exact Stp.le (Stp.pr Stp.refl fun K h =>by rw [azZ]; exact hkid K h) (Nat.zero_le _)
   split
   ·split
    ·exact Stp.le (Stp.pr (Stp.pr aot (hkid1 _)) fun K h =>Nat.zero_le _) (Nat.zero_le _)
    ·exact Stp.le (Stp.em (Stp.pr aot (hkid1 _))) (Nat.le_succ 1)
   split
   ·exact Stp.le (Stp.pr Stp.refl hkid) (Nat.zero_le _)
   ·exact Stp.le (aEi hkid) (Nat.zero_le _)
  | s2 s =>
   have h := aqF (e := e) (t := id) (v := lv) s
   revert h
   simp only [aee]
   rcases aeX id lv e s with ⟨r | ⟨c,y⟩,e'⟩ <;> intro h
   ·exact h.le (by decide)
   ·exact h.em.le (by decide)
  | s3 s =>
   have h := agv (e := e) (w := w) (v := lv) (x := id) s
   revert h
   simp only [aee]
   rcases abt w lv id e s with ⟨r | ⟨c,y⟩,e'⟩ <;> intro h <;> exact h.le (by decide)
  | s4 s =>
   have h := aoy (e := e) (w := w) (v := lv) s
   revert h
   simp only [aee]
   rcases ado w lv e s with ⟨r | ⟨c,y⟩,e'⟩ <;> intro h <;> exact h.le (by decide)
  | s5 =>exact (al4 (w := w) (t := id) hK.st).le (by decide)
  | j2 =>exact Stp.le (.pt (by decide)) (by decide)
  | j3 =>
   simp only [aee]
   split
   ·exact Stp.cas.em.le (by decide)
   ·exact Stp.cas.le (by decide)
  | j4 =>exact Stp.lk.le (by decide)
  | j5 s =>
   have h := ax4 (e := e) (w := w) (v := lv) s
   revert h
   simp only [aee]
   rcases aeR w lv e s with ⟨r | ⟨c,y⟩,e'⟩ <;> intro h
   ·exact h.le (by decide)
   ·exact alM h.em
  | j6 =>exact Stp.le (.pt (by decide)) (by decide)
  | j7 =>exact Stp.le (Stp.em (aEi hkid)) (Nat.le_succ 1)
  | f2 =>
   simp only [aee]
   split
   ·exact alM (Stp.cas.em.le (by decide))
   ·exact Stp.cas.em.le (by decide)
  | f3 =>
   simp only [aee]
   split
   ·exact Stp.lk.le (by decide)
   ·exact alM (Stp.lk.le (by decide))
  | f4 s =>
   have h := aCe (e := e) (w := w) (t := wt) s
   revert h
   simp only [aee]
   rcases adl w wt e s with ⟨r | ⟨c,y⟩,e'⟩ <;> intro h <;> exact h.le (by decide)
  | f5 v s =>
   have h := aoy (e := e) (w := w) (v := v) s
   revert h
   simp only [aee]
   rcases ado w v e s with ⟨r | ⟨c,y⟩,e'⟩ <;> intro h
   ·exact h.le (by decide)
   ·exact alM (h.le (by decide))
  | f6 =>
   simp only [aee]
   split
   ·exact (al4 (w := w) (t := wt) hK.st).le (by decide)
   ·exact alM ((al4 (w := w) (t := wt) hK.st).le (by decide))
 ·rw [if_pos hT]; exact Stp.refl.le (by decide)
theorem alL {r r' : RunS} {e e' : EnvP} (hr : r.stack ≠ []) (h : agU r e = (.go r',e')) : r'.stack ≠ [] ∧ r'.stack.length ≤ r.stack.length + 1 := by
 have h1 := List.length_pos_iff.2 hr
 unfold agU at h
 split at h
 ·cases h
 ·cases h
  refine ⟨List.length_pos_iff.1 ?_,?_⟩ <;> simp only [List.length_dropLast] <;> omega
theorem aGq {r r' : RunS} {e' : EnvP} (hr : r.stack ≠ []) (h : as2 w e r = (.go r',e')) : r'.stack ≠ [] ∧ r'.stack.length ≤ r.stack.length + 1 := by
 obtain ⟨st,id,ch,lv,wt,c⟩ := r
 have hr : st ≠ [] := hr
 have hz : st ≠ [] ∧ st.length ≤ st.length + 1 := ⟨hr,Nat.le_succ _⟩
 unfold as2 at h
 split at h
 ·cases h
 cases c with
 | next =>
  simp only [aee,aql] at h
  repeat' split at h
  all_goals cases h; exact hz
 | s2 s =>
  simp only [aee] at h
  split at h <;> cases h <;> exact hz
 | s3 s =>
  simp only [aee] at h
  split at h <;> cases h <;> exact hz
 | s4 s =>
  simp only [aee] at h
  split at h <;> cases h <;> exact hz
 | s5 =>
  simp only [aee] at h
  cases h
  split
  ·refine ⟨by simp,?_⟩
   simp only [List.length_append,List.length_singleton]; omega
  ·exact hz
 | j2 =>cases h; exact hz
 | j3 =>
  simp only [aee] at h
  split at h <;> cases h <;> exact hz
 | j4 =>cases h; exact hz
 | j5 s =>
  simp only [aee] at h
  split at h
  ·cases h; exact hz
  ·exact alL hr h
 | j6 =>cases h; exact hz
 | j7 =>cases h; exact hz
 | f2 =>
  simp only [aee] at h
  split at h
  ·exact alL hr h
  ·cases h; exact hz
 | f3 =>
  simp only [aee] at h
  split at h
  ·cases h; exact hz
  ·exact alL (r := ⟨st,id,ch,lv,wi (wi (e.gt (acO e.l (aaB st))) - 1),.f3⟩) hr h
 | f4 s =>
  simp only [aee] at h
  split at h <;> cases h <;> exact hz
 | f5 v s =>
  simp only [aee] at h
  split at h
  ·cases h; exact hz
  ·exact alL hr h
 | f6 =>
  simp only [aee] at h
  split at h
  ·cases h
   refine ⟨by simp,?_⟩
   simp only [List.length_append,List.length_singleton,List.length_dropLast]; omega
  ·exact alL hr h
theorem aA1 {cur vi lv x : Int} : aah ⟨w,cur,0,.nil,vi,lv,x⟩ e = aah (acN e.l w ⟨cur,vi,lv,x,abT w e ⟨cur,vi,lv,x,.top⟩⟩) e := by
 unfold abT
 by_cases ha : e.c.age = 0
 ·simp only [ha,if_true,aah,ad8,aaf,afC,afX,bnd,if_false,Int.reduceEq,axh,Int.reduceLE,o0]
 ·simp only [ha,if_false,aah,ad8,aaf,anf,amL,bnd,if_true,Int.reduceEq,Int.reduceLE,o0]
def axc (l : LayV) (w : Int) (res : Option ((Bool × Unit) × (WorkerV MV × EnvP × Unit))) (r : WorkS × EnvP) : Prop := res = some ((false,()),(acN l w r.1,r.2,()))
theorem axc.ite {l : LayV} {c : Prop} [Decidable c] {a b : Option ((Bool × Unit) × (WorkerV MV × EnvP × Unit))} {r s : WorkS × EnvP} (h1 : c → axc l w a r) (h2 : ¬ c → axc l w b s) : axc l w (if c then a else b) (if c then r else s) := by
 by_cases h : c
 ·rw [if_pos h,if_pos h]; exact h1 h
 ·rw [if_neg h,if_neg h]; exact h2 h
theorem aow {c : Prop} [Decidable c] {x y : WorkS} {e : EnvP} : ((if c then x else y),e) = if c then (x,e) else (y,e) := by split <;> rfl
theorem as6 (hK : EOk K e) (hk : K ≤ 100000000) (k : WorkS) (hc : k.c ≠ .top) (hW : ahg K (ab2 e) k) : axc e.l w (aah (acN e.l w k) e) (acy w e k) := by
 have hl : e.evs.length ≤ 999999999 := by have := hK.ev; omega
 obtain ⟨cur,vi,lv,x,c⟩ := k
 cases c with
 | top =>exact absurd rfl hc
 | t1 t s =>
  have h := ayc (w := w) (t := t) hK hk s
  revert h
  simp only [acy,abT,aah,adP,bnd,Int.reduceEq,if_false]
  rcases abc w t e s with ⟨r | ⟨c,y⟩,e'⟩ <;> intro h
  ·simp only [aaX] at h
   simp only [h,bnd,Bool.not_false,if_true]
   rfl
  ·simp only [aaX] at h
   obtain ⟨x',h,ho⟩ := h
   simp only [h,ho,abx,abY,aaf,afC,afX,bnd,Bool.not_true,Bool.false_eq_true,if_true,if_false,Int.reduceEq,Int.reduceLE]
   rfl
 | t2 s =>
  have h := aAP (w := w) hK hk s
  revert h
  simp only [acy,abT,aah,adP,bnd,Int.reduceEq,if_false]
  rcases aiS w e s with ⟨r | ⟨c,y⟩,e'⟩ <;> intro h
  ·simp only [aaX] at h
   simp only [h,bnd,Bool.not_false,if_true]
   rfl
  ·simp only [aaX] at h
   obtain ⟨x',h,ho⟩ := h
   simp only [tpI,tlI,h,ho,abx,abY,adf,aaf,ale,aj3,bnd,Bool.not_true,Bool.false_eq_true,if_true,if_false,Int.reduceEq,Int.reduceLE,ach,aow]
   exact axc.ite (fun _ =>rfl) fun _ =>rfl
 | t3 s =>
  have h := azR (w := w) hK hk s hW
  revert h
  simp only [acy,abT,aah,adP,bnd,Int.reduceEq,if_false]
  rcases abk w e s with ⟨r | ⟨c,y⟩,e'⟩ <;> intro h
  ·simp only [aaX] at h
   simp only [h,bnd,Bool.not_false,if_true]
   rfl
  ·simp only [aaX] at h
   obtain ⟨x',h,ho⟩ := h
   simp only [h,ho,abx,abY,acx,abb,acz,afC,afX,adC,amD,aaf,bnd,Bool.not_true,Bool.false_eq_true,if_true,if_false,Int.reduceEq,Int.reduceLE,ach,aow]
   refine axc.ite (fun _ =>rfl) fun _ =>axc.ite (fun _ =>rfl) fun _ =>?_
   unfold ar5
   by_cases h1 : e'.c.workers = 1
   ·rw [if_pos h1,if_pos h1]; rfl
   ·rw [if_neg h1,if_neg h1]; rfl
 | t4 s =>
  have h := ayQ (w := w) hK.wk s hW
  have hn := av9 (e := e) (w := w) s
  revert h hn
  simp only [acy,abT,aah,adP,bnd,Int.reduceEq,if_false]
  rcases aiw w e s with ⟨r | ⟨c,y⟩,e'⟩ <;> intro h hn
  ·simp only [aaX] at h
   simp only [h,bnd,Bool.not_false,if_true]
   rfl
  ·simp only [aaX] at h
   obtain ⟨x',h,ho⟩ := h
   have hnl : e'.l = e.l := hn.l
   simp only [h,ho,abx,abY,adH,adC,aja,aaf,bnd,Bool.not_true,Bool.false_eq_true,if_true,if_false,Int.reduceEq,Int.reduceLE,ach,aow,hnl]
   exact axc.ite (fun _ =>rfl) fun _ =>rfl
 | t5 s =>
  have h := ayh (e := e) (hK.q vi lv) s
  have hn := avT (e := e) (q := aaq e.l vi lv) s
  revert h hn
  simp only [acy,abT,aah,adP,bnd,Int.reduceEq,if_false]
  rcases ag5 (aaq e.l vi lv) e s with ⟨r | ⟨c,y⟩,e'⟩ <;> intro h hn
  ·simp only [aaX] at h
   simp only [h,bnd,Bool.not_false,if_true]
   rfl
  ·simp only [aaX] at h
   obtain ⟨x',h,ho⟩ := h
   have hnl : e'.l = e.l := hn.l
   have hl' : e'.evs.length ≤ 999999999 := by have h1 : e'.evs.length ≤ e.evs.length + 0 := hn.ev; have := hK.ev; omega
   simp only [h,ho,abx,adN,acx,aaY,acz,agZ,aeM,aja,acd hl',aaf,bnd,Bool.not_true,Bool.false_eq_true,if_true,if_false,Int.reduceEq,Int.reduceLE,ach,hnl]
   exact axc.ite (fun _ =>by simp only [axc,EnvP.em,hnl]) fun _ =>axc.ite (fun _ =>rfl) fun _ =>rfl
 | t6 =>
  obtain ⟨x',h,ho⟩ := al3 (w := w) (t := x) hl hK.st
  simp only [tpI,tlI,acy,abT,aah,adP,h,abx,adf,aaY,aaf,ale,bnd,Bool.not_true,Bool.false_eq_true,if_true,if_false,Int.reduceEq,Int.reduceLE]
  rcases Bool.eq_false_or_eq_true (aer x e) with hc | hc
  ·simp only [hc,if_true] at ho ⊢
   simp only [ho,if_true]
   rfl
  ·simp only [hc,Bool.false_eq_true,if_false] at ho ⊢
   simp only [ho,Int.reduceEq,if_false]
   rfl
 | t7 s =>
  have h := aD1 (w := w) hK hk s ⟨hW.1,by have := hW.2; omega⟩
  revert h
  simp only [acy,abT,aah,adP,bnd,Int.reduceEq,if_false]
  rcases as2 w e s with ⟨r | ⟨c,y⟩,e'⟩ <;> intro h
  ·simp only [aaX] at h
   simp only [h,bnd,Bool.not_false,if_true]
   rfl
  ·simp only [aaX] at h
   obtain ⟨x',h,ho⟩ := h
   simp only [h,ho,abx,aaY,bnd,Bool.not_true,Bool.false_eq_true,if_true,if_false,Int.reduceEq,Int.reduceLE]
   rfl
 | t8 s =>
  have h := ayp (w := w) hl s
  revert h
  simp only [acy,abT,aah,adP,bnd,Int.reduceEq,if_false]
  rcases aeL w e s with ⟨r | ⟨c,y⟩,e'⟩ <;> intro h
  ·simp only [aaX] at h
   simp only [h,bnd,Bool.not_false,if_true]
   rfl
  ·simp only [aaX] at h
   obtain ⟨x',h,ho⟩ := h
   simp only [h,ho,abx,aaY,bnd,Bool.not_true,Bool.false_eq_true,if_true,if_false,Int.reduceEq,Int.reduceLE]
   rfl
 | t9 s =>
  have h := atq (e := e) (a := aaC e.l vi) (b := lv) (q := aaq e.l vi lv) s
  revert h
  simp only [acy,abT,aah,adP,bnd,Int.reduceEq,if_false]
  rcases aeW (aaC e.l vi) lv (aaq e.l vi lv) e s with ⟨r | ⟨c,y⟩,e'⟩ <;> intro h
  ·simp only [aaX] at h
   simp only [h,bnd,Bool.not_false,if_true]
   rfl
  ·simp only [aaX] at h
   obtain ⟨x',h,ho⟩ := h
   simp only [h,ho,abx,aaY,bnd,Bool.not_true,Bool.false_eq_true,if_true,if_false,Int.reduceEq,Int.reduceLE]
   rfl
theorem aox {k : WorkS} : abT w e k ≠ .top := by
 unfold abT
 split
 ·split <;> intro h <;> cases h
 ·rename_i h
  intro h2
  exact h h2
theorem avI (hK : EOk K e) (hk : K ≤ 100000000) (k : WorkS) (hW : ahg K (ab2 e) k) : axc e.l w (aah (acN e.l w k) e) (acy w e k) := by
 obtain ⟨cur,vi,lv,x,c⟩ := k
 cases c with
 | top =>
  have h1 := as6 (w := w) hK hk ⟨cur,vi,lv,x,abT w e ⟨cur,vi,lv,x,.top⟩⟩ (show abT w e ⟨cur,vi,lv,x,.top⟩ ≠ .top from aox) (by
   unfold abT
   simp only
   split <;> trivial)
  have h2 : acy w e ⟨cur,vi,lv,x,abT w e ⟨cur,vi,lv,x,.top⟩⟩ = acy w e ⟨cur,vi,lv,x,.top⟩ := by
   unfold abT
   simp only
   by_cases ha : e.c.age = 0
   ·simp only [acy,abT,ha,if_true]
   ·simp only [acy,abT,ha,if_false]
  rw [h2] at h1
  unfold axc at h1 ⊢
  rw [← h1]
  exact aA1
 | _ =>exact as6 hK hk _ (fun h =>by cases h) hW
end
@[reducible] def az4 (me id : Int) (s : Sub) : ClieC → Int × MV × Bool
 | .n1 =>(1,.nil,true)
 | .a1 =>(1,.attempt ⟨o0,me,false⟩,false)
 | .n2 =>(2,.nil,true)
 | .n3 =>(3,.nil,true)
 | .n4 =>(4,.nil,true)
 | .n5 =>(5,.nil,true)
 | .n6 =>(6,.nil,true)
 | .a6 t =>(6,.insert (ar4 s.deadline id t),false)
 | .n7 =>(7,.nil,true)
 | .n8 =>(8,.nil,true)
 | .n9 =>(9,.nil,true)
 | .a9 t =>(9,.wake (atb me s.level t),false)
@[reducible] def aju (subs : List Sub) (me : Int) (k : ClieS) : ClientV MV :=
 ⟨subs,me,k.i,(az4 me k.id (abC subs k.i) k.c).1,(az4 me k.id (abC subs k.i) k.c).2.1,(az4 me k.id (abC subs k.i) k.c).2.2,k.id,k.acc⟩
def aF1 (subs : List Sub) (me : Int) (res : Option ((Bool × Unit) × (ClientV MV × EnvP × Unit))) (r : Bool × ClieS × EnvP) : Prop := res = some ((r.1,()),(aju subs me r.2.1,r.2.2,()))
def aqo (subs : List Sub) (me i id ln : Int) : MV :=
 if ln = 1 then .attempt ⟨o0,me,false⟩ else if ln = 3 then .alloc ⟨o0⟩ else if ln = 6 then .insert ⟨o0,(abC subs i).deadline,id,1,0,0,0,0⟩ else if ln = 8 then .release ⟨o0⟩ else if ln = 9 then .wake ⟨o0,me,(abC subs i).level,1,0,0⟩ else .nil
section
variable [Tb] {K : Nat} {e : EnvP} {w : Int} {subs : List Sub} {me i id ln : Int} {m : MV} {f acc : Bool}
theorem ah6 (hi : 0 ≤ i ∧ i < (subs.length : Int)) (h : 1 ≤ ln ∧ ln ≤ 9) : adc ⟨subs,me,i,ln,m,f,id,acc⟩ = some ((aqo subs me i id ln,()),(⟨subs,me,i,ln,m,f,id,acc⟩,())) := by
 unfold adc
 simp only [hi,and_self,if_true,akG,aeS,ahn,afw,acY,bnd]
 rw [aaF (aan (show _ ∧ _ by omega)),if_pos (by simp only [List.length_cons,List.length_nil]; omega)]
 have hv : ln = 1 ∨ ln = 2 ∨ ln = 3 ∨ ln = 4 ∨ ln = 5 ∨ ln = 6 ∨ ln = 7 ∨ ln = 8 ∨ ln = 9 := by omega
 rcases hv with rfl | rfl | rfl | rfl | rfl | rfl | rfl | rfl | rfl <;> rfl
theorem ayo (x : AttemptV) : (SR1.spl (MV.attempt x)).isNone = false := rfl
theorem aDK (x : AllocV) : (SR1.spl (MV.alloc x)).isNone = false := rfl
theorem ayn (x : InsertV) : (SR1.spl (MV.insert x)).isNone = false := rfl
theorem aDJ (x : ReleaseV) : (SR1.spl (MV.release x)).isNone = false := rfl
theorem ayk (x : WakeV) : (SR1.spl (MV.wake x)).isNone = false := rfl
theorem aF1.ite {c : Prop} [Decidable c] {a b : Option ((Bool × Unit) × (ClientV MV × EnvP × Unit))} {r s : Bool × ClieS × EnvP} (h1 : c → aF1 subs me a r) (h2 : ¬ c → aF1 subs me b s) : aF1 subs me (if c then a else b) (if c then r else s) := by
 by_cases h : c
 ·rw [if_pos h,if_pos h]; exact h1 h
 ·rw [if_neg h,if_neg h]; exact h2 h
theorem awZ (hK : EOk K e) (hk : K ≤ 100000000) (k : ClieS) (hi0 : 0 ≤ k.i) : aF1 subs me (aat (aju subs me k) e) (am0 subs me e k) := by
 have hl : e.evs.length ≤ 999999999 := by have := hK.ev; omega
 obtain ⟨i,id,acc,c⟩ := k
 have hi0 : 0 ≤ i := hi0
 unfold am0
 by_cases hov : (subs.length : Int) ≤ i
 ·rw [if_pos hov]
  simp only [aat,aau,hov,decide_true,bnd,if_true]
  rfl
 rw [if_neg hov]
 have hi : 0 ≤ i ∧ i < (subs.length : Int) := by omega
 have hm : ∀ m v,aef { e with m := m } v = some ((),({ e with m := m,evs := e.evs ++ [v] },())) := fun m v =>acd (e := { e with m := m }) hl
 cases c with
 | n1 =>
  obtain ⟨dn,x',h,ho,hd,hx⟩ := arW (e := e) (w := me) (b := false)
  rw [Bool.or_false] at hd
  simp only [o0] at h hx
  simp only [abQ,aat,aau,hov,decide_false,bnd,Bool.not_true,Bool.not_false,Bool.false_eq_true,if_true,if_false,Int.reduceEq,ah6 hi (show (1 : Int) ≤ 1 ∧ (1 : Int) ≤ 9 by decide),aqo,ayo,adP,abx,h]
  rcases Bool.eq_false_or_eq_true (e.hit 1 0) with hh | hh
  ·rw [hh] at hd
   subst hd
   have ho := ho rfl
   simp only [hh,if_true] at ho ⊢
   simp only [ho,hi,and_self,aaW,aai,bnd,Bool.not_true,Bool.not_false,Bool.false_eq_true,if_true,if_false,Int.reduceEq]
   rfl
  ·rw [hh] at hd
   subst hd
   have hx := hx rfl
   simp only [hh,hx,bnd,Bool.not_true,Bool.not_false,Bool.false_eq_true,if_true,if_false,Int.reduceEq]
   rfl
 | a1 =>
  obtain ⟨dn,x',h,ho,hd,hx⟩ := arW (e := e) (w := me) (b := false)
  rw [Bool.or_false] at hd
  simp only [o0] at h hx
  simp only [abQ,aat,aau,hov,decide_false,bnd,Bool.not_true,Bool.not_false,Bool.false_eq_true,if_true,if_false,Int.reduceEq,ayo,adP,abx,h,o0]
  rcases Bool.eq_false_or_eq_true (e.hit 1 0) with hh | hh
  ·rw [hh] at hd
   subst hd
   have ho := ho rfl
   simp only [hh,if_true] at ho ⊢
   simp only [ho,hi,and_self,aaW,aai,bnd,Bool.not_true,Bool.not_false,Bool.false_eq_true,if_true,if_false,Int.reduceEq]
   rfl
  ·rw [hh] at hd
   subst hd
   have hx := hx rfl
   simp only [hh,hx,bnd,Bool.not_true,Bool.not_false,Bool.false_eq_true,if_true,if_false,Int.reduceEq]
   rfl
 | n2 =>
  simp only [abQ,aat,aau,hov,decide_false,bnd,Bool.not_true,Bool.not_false,Bool.false_eq_true,if_true,if_false,Int.reduceEq,ah6 hi (show (1 : Int) ≤ 2 ∧ (2 : Int) ≤ 9 by decide),aqo,akB,aa8,hi,and_self,agl,abA,abL,aai,hm]
  rw [ach]
  exact aF1.ite (fun _ =>rfl) fun _ =>rfl
 | n3 =>
  obtain ⟨x',h,ho⟩ := aur (e := e)
  simp only [abQ,aat,aau,hov,decide_false,bnd,Bool.not_true,Bool.not_false,Bool.false_eq_true,if_true,if_false,Int.reduceEq,ah6 hi (show (1 : Int) ≤ 3 ∧ (3 : Int) ≤ 9 by decide),aqo,aDK,adP,abx,h,aaW,abL,aai,hi,and_self]
  by_cases ci : IsT e (wi (e.gt 0))
  ·rw [if_pos ci] at ho ⊢
   have hv : 0 ≤ wi (e.gt 0) ∧ wi (e.gt 0) < ((abV e).recs.length : Int) := ⟨ci.1,by have := ci.2; have := hK.ct; show _ < (e.recs.length : Int); omega⟩
   simp only [ho,Int.reduceEq,if_false,hv,and_self,if_true]
   rfl
  ·rw [if_neg ci] at ho ⊢
   simp only [ho,if_true,acd (e := abV e) hl,bnd]
   rfl
 | n4 =>
  simp only [abQ,aat,aau,hov,decide_false,bnd,Bool.not_true,Bool.not_false,Bool.false_eq_true,if_true,if_false,Int.reduceEq,ah6 hi (show (1 : Int) ≤ 4 ∧ (4 : Int) ≤ 9 by decide),aqo,akB,aa8,hi,and_self,afT,abr,aai]
  rfl
 | n5 =>
  simp only [abQ,aat,aau,hov,decide_false,bnd,Bool.not_true,Bool.not_false,Bool.false_eq_true,if_true,if_false,Int.reduceEq,ah6 hi (show (1 : Int) ≤ 5 ∧ (5 : Int) ≤ 9 by decide),aqo,akB,aa8,hi,and_self,ai8,arD,abr,aai]
  rfl
 | n6 =>
  have h := aqR (e := e) (d := (abC subs i).deadline) (t := id) .l1
  have hn := alR (e := e) (d := (abC subs i).deadline) (t := id) .l1
  revert h hn
  simp only [abQ,aat,aau,hov,decide_false,bnd,Bool.not_true,Bool.not_false,Bool.false_eq_true,if_true,if_false,Int.reduceEq,ah6 hi (show (1 : Int) ≤ 6 ∧ (6 : Int) ≤ 9 by decide),aqo,ayn,adP,abx,o0]
  rcases abH (abC subs i).deadline id e .l1 with ⟨r | ⟨c,y⟩,e'⟩ <;> intro h hn
  ·simp only [aaX,o0] at h
   simp only [h,bnd,Bool.not_false,if_true]
   rfl
  ·simp only [aaX,o0] at h
   obtain ⟨x',h,ho⟩ := h
   have hl' : e'.evs.length ≤ 999999999 := by have h1 : e'.evs.length ≤ e.evs.length + 0 := hn.ev; have := hK.ev; omega
   simp only [h,ho,aaW,aai,hi,and_self,acd hl',bnd,Bool.not_true,Bool.not_false,Bool.false_eq_true,if_true,if_false,Int.reduceEq,ne_eq]
   by_cases hc : c = 0
   ·simp only [hc,not_true,if_true,if_false]; rfl
   ·simp only [hc,not_false_eq_true,if_true,if_false]; rfl
 | a6 t =>
  have h := aqR (e := e) (d := (abC subs i).deadline) (t := id) t
  have hn := alR (e := e) (d := (abC subs i).deadline) (t := id) t
  revert h hn
  simp only [abQ,aat,aau,hov,decide_false,bnd,Bool.not_true,Bool.not_false,Bool.false_eq_true,if_true,if_false,Int.reduceEq,ayn,adP,abx]
  rcases abH (abC subs i).deadline id e t with ⟨r | ⟨c,y⟩,e'⟩ <;> intro h hn
  ·simp only [aaX] at h
   simp only [h,bnd,Bool.not_false,if_true]
   rfl
  ·simp only [aaX] at h
   obtain ⟨x',h,ho⟩ := h
   have hl' : e'.evs.length ≤ 999999999 := by have h1 : e'.evs.length ≤ e.evs.length + 0 := hn.ev; have := hK.ev; omega
   simp only [h,ho,aaW,aai,hi,and_self,acd hl',bnd,Bool.not_true,Bool.not_false,Bool.false_eq_true,if_true,if_false,Int.reduceEq,ne_eq]
   by_cases hc : c = 0
   ·simp only [hc,not_true,if_true,if_false]; rfl
   ·simp only [hc,not_false_eq_true,if_true,if_false]; rfl
 | n7 =>
  simp only [abQ,aat,aau,hov,decide_false,bnd,Bool.not_true,Bool.not_false,Bool.false_eq_true,if_true,if_false,Int.reduceEq,ah6 hi (show (1 : Int) ≤ 7 ∧ (7 : Int) ≤ 9 by decide),aqo,akB,aa8,hi,and_self,ad0,abr,aai]
  rfl
 | n8 =>
  obtain ⟨x',h,ho⟩ := awH (e := e)
  simp only [abQ,aat,aau,hov,decide_false,bnd,Bool.not_true,Bool.not_false,Bool.false_eq_true,if_true,if_false,Int.reduceEq,ah6 hi (show (1 : Int) ≤ 8 ∧ (8 : Int) ≤ 9 by decide),aqo,aDJ,adP,abx,h,aaW,acT,aau,aai,hi,and_self]
  cases acc <;> rfl
 | n9 =>
  have h := akV (e := e) (w := me) (v := (abC subs i).level) hl (.l1 0)
  revert h
  simp only [abQ,aat,aau,hov,decide_false,bnd,Bool.not_true,Bool.not_false,Bool.false_eq_true,if_true,if_false,Int.reduceEq,ah6 hi (show (1 : Int) ≤ 9 ∧ (9 : Int) ≤ 9 by decide),aqo,ayk,adP,abx,o0]
  rcases ado me (abC subs i).level e (.l1 0) with ⟨r | ⟨c,y⟩,e'⟩ <;> intro h
  ·simp only [aaX,o0] at h
   simp only [h,bnd,Bool.not_false,if_true]
   rfl
  ·simp only [aaX,o0] at h
   obtain ⟨x',h,ho⟩ := h
   simp only [h,ho,aaW,acT,aau,aai,hi,and_self,bnd,Bool.not_true,Bool.not_false,Bool.false_eq_true,if_true,if_false,Int.reduceEq]
   rfl
 | a9 t =>
  have h := akV (e := e) (w := me) (v := (abC subs i).level) hl t
  revert h
  simp only [abQ,aat,aau,hov,decide_false,bnd,Bool.not_true,Bool.not_false,Bool.false_eq_true,if_true,if_false,Int.reduceEq,ayk,adP,abx]
  rcases ado me (abC subs i).level e t with ⟨r | ⟨c,y⟩,e'⟩ <;> intro h
  ·simp only [aaX] at h
   simp only [h,bnd,Bool.not_false,if_true]
   rfl
  ·simp only [aaX] at h
   obtain ⟨x',h,ho⟩ := h
   simp only [h,ho,aaW,acT,aau,aai,hi,and_self,bnd,Bool.not_true,Bool.not_false,Bool.false_eq_true,if_true,if_false,Int.reduceEq]
   rfl
theorem anj (hK : EOk K e) (k : WorkS) (hc : k.c ≠ .top) : Stp 2 e (acy w e k).2 := by
 obtain ⟨cur,vi,lv,x,c⟩ := k
 cases c with
 | top =>exact absurd rfl hc
 | t1 t s =>
  have h := aAR (e := e) (w := w) (t := t) s
  revert h
  simp only [acy,abT]
  rcases abc w t e s with ⟨r | ⟨c,y⟩,e'⟩ <;> intro h
  ·exact h.le (by decide)
  ·exact h.le (by decide)
 | t2 s =>
  have h := aDp (w := w) (fun t =>hK.st) s
  revert h
  simp only [acy,abT]
  rcases aiS w e s with ⟨r | ⟨c,y⟩,e'⟩ <;> intro h
  ·exact h.le (by decide)
  ·exact h.le (by decide)
 | t3 s =>
  have h := aCj (e := e) (w := w) s
  revert h
  simp only [acy,abT]
  rcases abk w e s with ⟨r | ⟨c,y⟩,e'⟩ <;> intro h
  ·exact h.le (by decide)
  ·exact h.le (by decide)
 | t4 s =>
  have h := av9 (e := e) (w := w) s
  revert h
  simp only [acy,abT]
  rcases aiw w e s with ⟨r | ⟨c,y⟩,e'⟩ <;> intro h
  ·exact h.le (by decide)
  ·exact h.le (by decide)
 | t5 s =>
  have h := avT (e := e) (q := aaq e.l vi lv) s
  revert h
  simp only [acy,abT]
  rcases ag5 (aaq e.l vi lv) e s with ⟨r | ⟨c,y⟩,e'⟩ <;> intro h
  ·exact h.le (by decide)
  ·simp only
   split
   ·exact Stp.le (Stp.em h) (by decide)
   ·split <;> exact Stp.le h (by decide)
 | t6 =>exact (al4 (w := w) (t := x) hK.st).le (by decide)
 | t7 s =>
  have h := aGr (w := w) hK s
  revert h
  simp only [acy,abT]
  rcases as2 w e s with ⟨r | ⟨c,y⟩,e'⟩ <;> intro h
  ·exact h.le (by decide)
  ·exact h.le (by decide)
 | t8 s =>
  have h := aA5 (e := e) (w := w) s
  revert h
  simp only [acy,abT]
  rcases aeL w e s with ⟨r | ⟨c,y⟩,e'⟩ <;> intro h
  ·exact h.le (by decide)
  ·exact h.le (by decide)
 | t9 s =>
  have h := av1 (e := e) (a := aaC e.l vi) (b := lv) (q := aaq e.l vi lv) s
  revert h
  simp only [acy,abT]
  rcases aeW (aaC e.l vi) lv (aaq e.l vi lv) e s with ⟨r | ⟨c,y⟩,e'⟩ <;> intro h
  ·exact h.le (by decide)
  ·exact h.le (by decide)
theorem as7 {cur vi lv x : Int} : acy w e ⟨cur,vi,lv,x,abT w e ⟨cur,vi,lv,x,.top⟩⟩ = acy w e ⟨cur,vi,lv,x,.top⟩ := by
 unfold abT
 simp only
 by_cases ha : e.c.age = 0
 ·simp only [acy,abT,ha,if_true]
 ·simp only [acy,abT,ha,if_false]
theorem ax3 (hK : EOk K e) (k : WorkS) : Stp 2 e (acy w e k).2 := by
 obtain ⟨cur,vi,lv,x,c⟩ := k
 cases c with
 | top =>
  rw [← as7]
  exact anj hK _ (show abT w e ⟨cur,vi,lv,x,.top⟩ ≠ .top from aox)
 | _ =>exact anj hK _ (fun h =>by cases h)
theorem ani (hK : EOk K e) (k : WorkS) (hc : k.c ≠ .top) (hW : ahg K (ab2 e) k) (hK1 : 1 ≤ K) : ahg (K + 1) (ab2 e) (acy w e k).1 := by
 obtain ⟨cur,vi,lv,x,c⟩ := k
 have hr0 : ∀ t,aH3 (K + 1) (aD2 t) := fun t =>⟨by simp [aD2],by simp [aD2]⟩
 cases c with
 | top =>exact absurd rfl hc
 | t1 t s =>
  simp only [acy,abT]
  split <;> trivial
 | t2 s =>
  simp only [acy,abT]
  split
  ·trivial
  ·simp only
   split
   ·exact hr0 _
   ·exact (rfl : aC9.direct = false)
 | t3 s =>
  simp only [acy,abT]
  split
  ·rename_i h; exact aCi hW h
  ·simp only
   split
   ·trivial
   ·split
    ·trivial
    ·unfold ahg ar5
     simp only
     split <;> first | trivial | (rename_i h; split at h <;> cases h; trivial) | (rename_i h; split at h <;> cases h)
 | t4 s =>
  simp only [acy,abT]
  split
  ·rename_i h; exact aBo hK.wk hW h
  ·simp only
   split <;> trivial
 | t5 s =>
  simp only [acy,abT]
  split
  ·trivial
  ·split
   ·trivial
   ·split <;> trivial
 | t6 =>
  simp only [acy,abT]
  split
  ·exact hr0 _
  ·trivial
 | t7 s =>
  simp only [acy,abT]
  split
  ·rename_i h
   have h1 := aGq hW.1 h
   exact ⟨h1.1,by have := hW.2; omega⟩
  ·trivial
 | t8 s =>
  simp only [acy,abT]
  split <;> trivial
 | t9 s =>
  simp only [acy,abT]
  split <;> trivial
theorem ax2 (hK : EOk K e) (k : WorkS) (hW : ahg K (ab2 e) k) (hK1 : 1 ≤ K) : ahg (K + 1) (ab2 e) (acy w e k).1 := by
 obtain ⟨cur,vi,lv,x,c⟩ := k
 cases c with
 | top =>
  rw [← as7]
  refine ani hK _ (show abT w e ⟨cur,vi,lv,x,.top⟩ ≠ .top from aox) ?_ hK1
  unfold abT
  simp only
  split <;> trivial
 | _ =>exact ani hK _ (fun h =>by cases h) hW hK1
theorem az2 (hK : EOk K e) (k : ClieS) : Stp 2 e (am0 subs me e k).2.2 := by
 obtain ⟨i,id,acc,c⟩ := k
 unfold am0
 split
 ·exact Stp.refl.le (by decide)
 cases c with
 | n1 =>exact Stp.le avd (by decide)
 | a1 =>exact Stp.le avd (by decide)
 | n2 =>
  simp only [abQ]
  split
  ·exact Stp.le (Stp.em Stp.lk) (by decide)
  ·exact Stp.le Stp.lk (by decide)
 | n3 =>
  simp only [abQ]
  split
  ·exact Stp.le (Stp.pr aot fun K h =>Nat.zero_le _) (by decide)
  ·exact Stp.le (Stp.em aot) (by decide)
 | n4 =>exact Stp.le (Stp.pt (by decide)) (Nat.zero_le _)
 | n5 =>exact Stp.le (Stp.pt (by decide)) (Nat.zero_le _)
 | n6 =>
  have h := alR (e := e) (d := (abC subs i).deadline) (t := id) .l1
  revert h
  simp only [abQ]
  rcases abH (abC subs i).deadline id e .l1 with ⟨r | ⟨c,y⟩,e'⟩ <;> intro h
  ·exact Stp.le h (by decide)
  ·simp only
   split
   ·exact Stp.le (Stp.em h) (by decide)
   ·exact Stp.le h (by decide)
 | a6 t =>
  have h := alR (e := e) (d := (abC subs i).deadline) (t := id) t
  revert h
  simp only [abQ]
  rcases abH (abC subs i).deadline id e t with ⟨r | ⟨c,y⟩,e'⟩ <;> intro h
  ·exact Stp.le h (by decide)
  ·simp only
   split
   ·exact Stp.le (Stp.em h) (by decide)
   ·exact Stp.le h (by decide)
 | n7 =>exact Stp.le (Stp.pt (by decide)) (Nat.zero_le _)
 | n8 =>
  simp only [abQ]
  split
  ·exact Stp.le avi (by decide)
  ·exact Stp.le (show Stp 0 e (axM subs _ (aif e)).2.2 from avi) (by decide)
 | n9 =>
  have h := aoy (e := e) (w := me) (v := (abC subs i).level) (.l1 0)
  revert h
  simp only [abQ]
  rcases ado me (abC subs i).level e (.l1 0) with ⟨r | ⟨c,y⟩,e'⟩ <;> intro h <;> exact Stp.le h (by decide)
 | a9 t =>
  have h := aoy (e := e) (w := me) (v := (abC subs i).level) t
  revert h
  simp only [abQ]
  rcases ado me (abC subs i).level e t with ⟨r | ⟨c,y⟩,e'⟩ <;> intro h <;> exact Stp.le h (by decide)
end
end
section
open Go
variable [Tb]
theorem ahy (b : List Int) (l : List (List Int)) (hl : l.length ≤ 1000000) : aaI (apB b l) fun o =>o.1.1 = true → b.length ≤ 400 ∧ ∀ x ∈ l,x.length ≤ 400 := by
 unfold apB
 refine aaI.bind (P := fun z =>(∀ o,z = .inr o → o.1.1 = false) ∧ (∀ y,z = .inl y → ∀ x ∈ l,x.length ≤ 400)) (acr (fun x =>0 ≤ x.1 ∧ x.1 ≤ (l.length : Int) ∧ ∀ i : Nat,(i : Int) < x.1 → ∀ y,l[i]? = some y → y.length ≤ 400) (fun x =>((l.length : Int) - x.1).toNat) (fun self x ⟨q0,q1,q2⟩ ih =>?_) _ _ ⟨Int.le_refl 0,by show (0 : Int) ≤ (l.length : Int); omega,fun i hi =>by omega⟩ (by show ((l.length : Int) - 0).toNat < _; omega)) fun z hz =>?_
 rotate_left
 ·have e2 : wi (x.1 + 1) = x.1 + 1 := aaF (aan (by omega))
  rw [e2]
  refine aaI.ite (fun hlt =>.guard ⟨q0,hlt⟩ fun _ =>aaI.ite (fun _ =>.some_ ⟨fun o e =>(by cases e; rfl),fun y e =>(by cases e)⟩) fun h4 =>ih _ ⟨by show 0 ≤ x.1 + 1; omega,by show x.1 + 1 ≤ (l.length : Int); omega,fun i hi y hy =>?_⟩ (by show ((l.length : Int) - (x.1 + 1)).toNat < ((l.length : Int) - x.1).toNat; omega)) fun hlt =>.some_ ⟨fun o e =>(by cases e),fun y e x' hx' =>?_⟩
  ·by_cases hi2 : (i : Int) < x.1
   ·exact q2 i hi2 y hy
   ·have hi3 : i = x.1.toNat := by have : (i : Int) < x.1 + 1 := hi; omega
    have h5 := aeI (d := ([] : List Int)) (xs := l) (i := x.1) ⟨q0,hlt⟩
    rw [hi3,h5] at hy
    cases hy
    omega
  ·obtain ⟨i,hi,rfl⟩ := List.getElem_of_mem hx'
   exact q2 i (by omega) _ (List.getElem?_eq_getElem hi)
 ·rcases z with y | o
  ·refine .some_ fun e =>⟨?_,hz.2 y rfl⟩
   have : ((b.length : Nat) : Int) ≤ 400 := of_decide_eq_true e
   omega
  ·exact .some_ fun e =>by rw [hz.1 o rfl] at e; cases e
structure DecOk (c : Cfg) : Prop where
 w : 1 ≤ c.workers ∧ c.workers ≤ 4
 l : 1 ≤ c.levels ∧ c.levels ≤ 4
 k : 1 ≤ c.classes ∧ c.classes ≤ 3 ∧ c.classes ≤ c.levels
 t : 1 ≤ c.tasks ∧ c.tasks ≤ 12
 q : 1 ≤ c.deque ∧ c.deque ≤ 4
 h : 1 ≤ c.heap ∧ c.heap ≤ 4
 b : 1 ≤ c.batch ∧ c.batch ≤ c.deque
 a : 0 ≤ c.age ∧ c.age ≤ 5
 p : 1 ≤ c.patience ∧ c.patience ≤ 8
 pn : 1 ≤ c.progs.length ∧ c.progs.length ≤ 4
 pl : ∀ x ∈ c.progs,x.length ≤ 5
 ps : ∀ x ∈ c.progs,∀ i ∈ x,(i.op = 0 ∧ 1 ≤ i.a ∧ i.a ≤ 4 ∧ i.b = 0) ∨ (i.op = 1 ∧ 0 ≤ i.a ∧ i.a < (c.progs.length : Int) ∧ 0 ≤ i.b ∧ i.b < c.levels) ∨ (i.op = 2 ∧ 0 ≤ i.a ∧ i.a ≤ 3 ∧ i.b = 0)
 sn : c.subs.length ≤ 5
 ss : ∀ s ∈ c.subs,(0 ≤ s.prog ∧ s.prog < (c.progs.length : Int)) ∧ (0 ≤ s.level ∧ s.level < c.levels) ∧ 0 ≤ s.deadline ∧ s.deadline ≤ 15
structure CodOk (N : Int) (r : CodV) : Prop where
 by_ : ∀ x ∈ r.inn,0 ≤ x ∧ x ≤ 255
 ln : r.inn.length ≤ 1000000
 at_ : 0 ≤ r.at_ ∧ r.at_ ≤ N
theorem ace {N : Int} {r : CodV} {k : Int} (h : CodOk N r) (hN : N ≤ 1000000) (h1 : 1 ≤ k) (h2 : k ≤ 1000) : aaI (abG r k) fun o =>(0 ≤ o.1.1 ∧ o.1.1 < k) ∧ CodOk (N + 1) o.2.1 := by
 have ha := h.at_
 have e1 : wi (r.at_ + 1) = r.at_ + 1 := aaF (aan (by omega))
 unfold abG
 rw [e1]
 refine aaI.ite (fun hlt =>.guard ⟨ha.1,hlt⟩ fun _ =>.guard (by omega) fun _ =>.some_ ⟨?_,h.by_,h.ln,by show 0 ≤ r.at_ + 1; omega,by show r.at_ + 1 ≤ N + 1; omega⟩) fun _ =>.some_ ⟨⟨Int.le_refl 0,by show (0 : Int) < k; omega⟩,h.by_,h.ln,by show 0 ≤ r.at_ + 1; omega,by show r.at_ + 1 ≤ N + 1; omega⟩
 have hb := h.by_ _ (aun (d := dfR 17) (xs := r.inn) (i := r.at_) ⟨ha.1,hlt⟩)
 have e2 : wi (aiM r.inn r.at_) = aiM r.inn r.at_ := aaF (aan (x := aiM r.inn r.at_) ⟨by have := hb.1; exact Int.le_trans (by decide) this,by have := hb.2; exact Int.le_trans this (by decide)⟩)
 rw [e2]
 exact ara h1 hb.1
theorem CodOk.up {N M : Int} {r : CodV} (h : CodOk N r) (hl : N ≤ M) : CodOk M r := ⟨h.by_,h.ln,h.at_.1,by have := h.at_; omega⟩
def avB (n lv : Int) (i : Ins) : Prop := (i.op = 0 ∧ 1 ≤ i.a ∧ i.a ≤ 4 ∧ i.b = 0) ∨ (i.op = 1 ∧ 0 ≤ i.a ∧ i.a < n ∧ 0 ≤ i.b ∧ i.b < lv) ∨ (i.op = 2 ∧ 0 ≤ i.a ∧ i.a ≤ 3 ∧ i.b = 0)
def aJk (n lv : Int) (s : Sub) : Prop := (0 ≤ s.prog ∧ s.prog < n) ∧ (0 ≤ s.level ∧ s.level < lv) ∧ 0 ≤ s.deadline ∧ s.deadline ≤ 15
structure NumOk (c : Cfg) : Prop where
 w : 1 ≤ c.workers ∧ c.workers ≤ 4
 l : 1 ≤ c.levels ∧ c.levels ≤ 4
 k : 1 ≤ c.classes ∧ c.classes ≤ 3 ∧ c.classes ≤ c.levels
 t : 1 ≤ c.tasks ∧ c.tasks ≤ 12
 q : 1 ≤ c.deque ∧ c.deque ≤ 4
 h : 1 ≤ c.heap ∧ c.heap ≤ 4
 b : 1 ≤ c.batch ∧ c.batch ≤ c.deque
 a : 0 ≤ c.age ∧ c.age ≤ 5
 p : 1 ≤ c.patience ∧ c.patience ≤ 8
theorem w1p {x : Int} (h : 0 ≤ x) (h2 : x ≤ 1000000) : wi (1 + x) = 1 + x := aaF (aan (by omega))
theorem avo {b : List Int} (hb : ∀ x ∈ b,0 ≤ x ∧ x ≤ 255) (hl : b.length ≤ 1000000) : aaI (aob b) fun o =>DecOk o.1.1 := by
 unfold aob
 refine (ace (N := 0) (k := 4) ⟨hb,hl,Int.le_refl 0,Int.le_refl 0⟩ (by decide) (by decide) (by decide)).bind fun r1 h1 =>?_
 refine (ace (k := 4) h1.2 (by decide) (by decide) (by decide)).bind fun r2 h2 =>?_
 have w1 := w1p h1.1.1 (by omega)
 have w2 := w1p h2.1.1 (by omega)
 rw [w1,w2]
 refine (ace h2.2 (by decide) (by split <;> omega) (by split <;> omega)).bind fun r3 h3 =>?_
 refine (ace (k := 12) h3.2 (by decide) (by decide) (by decide)).bind fun r4 h4 =>?_
 refine (ace (k := 4) h4.2 (by decide) (by decide) (by decide)).bind fun r5 h5 =>?_
 refine (ace (k := 4) h5.2 (by decide) (by decide) (by decide)).bind fun r6 h6 =>?_
 have h3' : r3.1.1 < 3 ∧ r3.1.1 < 1 + r2.1.1 := by
  have := h3.1.2
  split at this <;> omega
 have w3 := w1p h3.1.1 (by omega)
 have w4 := w1p h4.1.1 (by omega)
 have w5 := w1p h5.1.1 (by omega)
 have w6 := w1p h6.1.1 (by omega)
 rw [w3,w4,w5,w6]
 refine (ace h6.2 (by decide) (by omega) (by omega)).bind fun r7 h7 =>?_
 refine (ace (k := 6) h7.2 (by decide) (by decide) (by decide)).bind fun r8 h8 =>?_
 refine (ace (k := 8) h8.2 (by decide) (by decide) (by decide)).bind fun r9 h9 =>?_
 refine (ace (k := 4) h9.2 (by decide) (by decide) (by decide)).bind fun r10 h10 =>?_
 have w7 := w1p h7.1.1 (by omega)
 have w9 := w1p h9.1.1 (by omega)
 have w10 := w1p h10.1.1 (by omega)
 rw [w7,w9,w10]
 refine aaI.bind (P := fun z =>CodOk 1000 z.2.1 ∧ NumOk z.2.2.1 ∧ z.2.2.1.levels = 1 + r2.1.1 ∧ (z.2.2.1.progs.length : Int) = 1 + r10.1.1 ∧ (∀ p ∈ z.2.2.1.progs,p.length ≤ 5 ∧ ∀ i ∈ p,avB (1 + r10.1.1) (1 + r2.1.1) i) ∧ z.2.2.1.subs = [])
  (acr (fun x =>0 ≤ x.1 ∧ x.1 ≤ 1 + r10.1.1 ∧ CodOk (10 + 30 * x.1) x.2.1 ∧ NumOk x.2.2.1 ∧ x.2.2.1.levels = 1 + r2.1.1 ∧ (x.2.2.1.progs.length : Int) = x.1 ∧ (∀ p ∈ x.2.2.1.progs,p.length ≤ 5 ∧ ∀ i ∈ p,avB (1 + r10.1.1) (1 + r2.1.1) i) ∧ x.2.2.1.subs = [])
   (fun x =>(1 + r10.1.1 - x.1).toNat) (fun self x ⟨q0,q1,q2,q3,q4,q5,q6,q7⟩ ih =>?step) _ _ ⟨Int.le_refl 0,by show (0 : Int) ≤ 1 + r10.1.1; omega,h10.2,?num,rfl,rfl,fun p hp =>(by cases hp),rfl⟩ (by show (1 + r10.1.1 - 0).toNat < _; omega)) fun z hz =>?cont
 case step =>
  have f1 : wi (x.1 + 1) = x.1 + 1 := aaF (aan (by omega))
  refine aaI.ite (fun hlt =>?_) fun hlt =>.some_ ⟨q2.up (by omega),q3,q4,by show (x.2.2.1.progs.length : Int) = _; omega,q6,q7⟩
  have hlen : (x.2.2.1.progs.length : Int) < 10 := by omega
  rw [f1]
  refine (ace (k := 6) q2 (by omega) (by decide) (by decide)).bind fun r14 h14 =>?_
  refine aaI.bind (P := fun z =>z.1.length ≤ 5 ∧ (∀ i ∈ z.1,avB (1 + r10.1.1) (1 + r2.1.1) i) ∧ CodOk (10 + 30 * x.1 + 26) z.2.2.1)
   (acr (fun y =>0 ≤ y.2.1 ∧ (y.1.length : Int) + y.2.1 = r14.1.1 ∧ CodOk (10 + 30 * x.1 + 1 + 5 * (r14.1.1 - y.2.1)) y.2.2.1 ∧ ∀ i ∈ y.1,avB (1 + r10.1.1) (1 + r2.1.1) i)
    (fun y =>y.2.1.toNat) (fun self y ⟨p0,p1,p2,p3⟩ ih =>?_) _ _ ⟨h14.1.1,by show ((0 : Nat) : Int) + r14.1.1 = _; omega,h14.2.up (by show 10 + 30 * x.1 + 1 ≤ 10 + 30 * x.1 + 1 + 5 * (r14.1.1 - r14.1.1); omega),fun i hi =>(by cases hi)⟩ (by show r14.1.1.toNat < _; omega)) fun z hz =>?_
  ·refine .guard (by show (((x.2.2.1.progs.length + 1 : Nat)) : Int) < _; omega) fun _ =>ih _ ⟨by show 0 ≤ x.1 + 1; omega,by show x.1 + 1 ≤ _; omega,hz.2.2.up (by show 10 + 30 * x.1 + 26 ≤ 10 + 30 * (x.1 + 1); omega),⟨q3.w,q3.l,q3.k,q3.t,q3.q,q3.h,q3.b,q3.a,q3.p⟩,q4,?_,?_,q7⟩ ?_
   ·show (((x.2.2.1.progs ++ [z.1]).length : Nat) : Int) = x.1 + 1
    rw [List.length_append,List.length_singleton]; omega
   ·intro p hp
    rcases List.mem_append.1 hp with hp | hp
    ·exact q6 p hp
    ·rw [List.mem_singleton] at hp; subst hp; exact ⟨hz.1,hz.2.1⟩
   ·show (1 + r10.1.1 - (x.1 + 1)).toNat < (1 + r10.1.1 - x.1).toNat
    omega
  ·have f2 : wi (y.2.1 - 1) = y.2.1 - 1 := aaF (aan (by omega))
   have hyl : y.1.length ≤ 5 := by omega
   refine aaI.ite (fun hlt2 =>?_) fun hlt2 =>.some_ ⟨hyl,p3,p2.up (by omega)⟩
   rw [f2,q4]
   have nx : ∀ (u : Ins) (r : CodV),avB (1 + r10.1.1) (1 + r2.1.1) u → CodOk (10 + 30 * x.1 + 1 + 5 * (r14.1.1 - (y.2.1 - 1))) r → aaI (if (((y.1.length + ([u] : List Ins).length : Nat)) : Int) < 1000000000000 then self (y.1 ++ [u],y.2.1 - 1,r,()) else none) fun z =>z.1.length ≤ 5 ∧ (∀ i ∈ z.1,avB (1 + r10.1.1) (1 + r2.1.1) i) ∧ CodOk (10 + 30 * x.1 + 26) z.2.2.1 := fun u r hu hr =>
    .guard (by show (((y.1.length + 1 : Nat)) : Int) < _; omega) fun _ =>ih _ ⟨by show 0 ≤ y.2.1 - 1; omega,by
     show (((y.1 ++ [u]).length : Nat) : Int) + (y.2.1 - 1) = _
     rw [List.length_append,List.length_singleton]; omega,hr,fun i hi =>by
     rcases List.mem_append.1 hi with hi | hi
     ·exact p3 i hi
     ·rw [List.mem_singleton] at hi; subst hi; exact hu⟩ (by show (y.2.1 - 1).toNat < y.2.1.toNat; omega)
   refine (ace (k := 3) p2 (by omega) (by decide) (by decide)).bind fun r18 h18 =>?_
   refine aaI.ite (fun e0 =>?_) fun e0 =>aaI.ite (fun e1 =>?_) fun e1 =>?_
   ·refine (ace (k := 4) h18.2 (by omega) (by decide) (by decide)).bind fun r19 h19 =>?_
    rw [w1p h19.1.1 (by omega)]
    exact nx _ _ (.inl ⟨e0,by show 1 ≤ 1 + r19.1.1; omega,by show 1 + r19.1.1 ≤ 4; omega,rfl⟩) (h19.2.up (by omega))
   ·refine (ace (k := 1 + r10.1.1) h18.2 (by omega) (by omega) (by omega)).bind fun r20 h20 =>?_
    refine (ace (k := 1 + r2.1.1) h20.2 (by omega) (by omega) (by omega)).bind fun r21 h21 =>?_
    exact nx _ _ (.inr (.inl ⟨e1,h20.1.1,h20.1.2,h21.1.1,h21.1.2⟩)) (h21.2.up (by omega))
   ·refine (ace (k := 4) h18.2 (by omega) (by decide) (by decide)).bind fun r22 h22 =>?_
    exact nx _ _ (.inr (.inr ⟨by show r18.1.1 = 2; omega,h22.1.1,by show r22.1.1 ≤ 3; omega,rfl⟩)) (h22.2.up (by omega))
 case num =>
  refine ⟨?_,?_,?_,?_,?_,?_,?_,?_,?_⟩
  ·exact ⟨by show 1 ≤ 1 + r1.1.1; omega,by show 1 + r1.1.1 ≤ 4; omega⟩
  ·exact ⟨by show 1 ≤ 1 + r2.1.1; omega,by show 1 + r2.1.1 ≤ 4; omega⟩
  ·exact ⟨by show 1 ≤ 1 + r3.1.1; omega,by show 1 + r3.1.1 ≤ 3; omega,by show 1 + r3.1.1 ≤ 1 + r2.1.1; omega⟩
  ·exact ⟨by show 1 ≤ 1 + r4.1.1; omega,by show 1 + r4.1.1 ≤ 12; omega⟩
  ·exact ⟨by show 1 ≤ 1 + r5.1.1; omega,by show 1 + r5.1.1 ≤ 4; omega⟩
  ·exact ⟨by show 1 ≤ 1 + r6.1.1; omega,by show 1 + r6.1.1 ≤ 4; omega⟩
  ·exact ⟨by show 1 ≤ 1 + r7.1.1; omega,by show 1 + r7.1.1 ≤ 1 + r5.1.1; omega⟩
  ·exact ⟨h8.1.1,by show r8.1.1 ≤ 5; omega⟩
  ·exact ⟨by show 1 ≤ 1 + r9.1.1; omega,by show 1 + r9.1.1 ≤ 8; omega⟩
 case cont =>
  obtain ⟨g1,g2,g3,g4,g5,g6⟩ := hz
  refine (ace (k := 6) g1 (by decide) (by decide) (by decide)).bind fun r23 h23 =>?_
  refine aaI.bind (P := fun y =>DecOk y.2.2.1)
   (acr (fun y =>0 ≤ y.1 ∧ (y.2.2.1.subs.length : Int) + y.1 = r23.1.1 ∧ CodOk (1001 + 5 * (r23.1.1 - y.1)) y.2.1 ∧ NumOk y.2.2.1 ∧ y.2.2.1.levels = 1 + r2.1.1 ∧ (y.2.2.1.progs.length : Int) = 1 + r10.1.1 ∧ (∀ p ∈ y.2.2.1.progs,p.length ≤ 5 ∧ ∀ i ∈ p,avB (1 + r10.1.1) (1 + r2.1.1) i) ∧ ∀ s ∈ y.2.2.1.subs,aJk (1 + r10.1.1) (1 + r2.1.1) s)
    (fun y =>y.1.toNat) (fun self y ⟨p0,p1,p2,p3,p4,p5,p6,p7⟩ ih =>?_) _ _ ⟨h23.1.1,by show ((z.2.2.1.subs.length : Nat) : Int) + r23.1.1 = r23.1.1; rw [g6]; show ((0 : Nat) : Int) + r23.1.1 = r23.1.1; omega,h23.2.up (by show (1001 : Int) ≤ 1001 + 5 * (r23.1.1 - r23.1.1); omega),g2,g3,g4,g5,fun s hs =>by
     have hs2 : s ∈ z.2.2.1.subs := hs
     rw [g6] at hs2; cases hs2⟩ (by show r23.1.1.toNat < _; omega)) fun y hy =>.some_ hy
  have f2 : wi (y.1 - 1) = y.1 - 1 := aaF (aan (by omega))
  have hyl : y.2.2.1.subs.length ≤ 5 := by omega
  refine aaI.ite (fun hlt =>?_) fun hlt =>.some_ ⟨p3.w,p3.l,p3.k,p3.t,p3.q,p3.h,p3.b,p3.a,p3.p,by show 1 ≤ y.2.2.1.progs.length ∧ y.2.2.1.progs.length ≤ 4; omega,fun x hx =>(p6 x hx).1,fun x hx i hi =>by
   have := (p6 x hx).2 i hi
   rw [p5,p4]; exact this,hyl,fun s hs =>by
   have := p7 s hs
   rw [p5,p4]; exact this⟩
  rw [f2,p4]
  refine (ace (k := 1 + r10.1.1) p2 (by omega) (by omega) (by omega)).bind fun r27 h27 =>?_
  refine (ace (k := 1 + r2.1.1) h27.2 (by omega) (by omega) (by omega)).bind fun r28 h28 =>?_
  refine (ace (k := 16) h28.2 (by omega) (by omega) (by omega)).bind fun r29 h29 =>?_
  refine .guard (by show (((y.2.2.1.subs.length + 1 : Nat)) : Int) < _; omega) fun _ =>ih _ ⟨by show 0 ≤ y.1 - 1; omega,?_,h29.2.up (by show 1001 + 5 * (r23.1.1 - y.1) + 1 + 1 + 1 ≤ 1001 + 5 * (r23.1.1 - (y.1 - 1)); omega),⟨p3.w,p3.l,p3.k,p3.t,p3.q,p3.h,p3.b,p3.a,p3.p⟩,p4,p5,p6,?_⟩ (by show (y.1 - 1).toNat < y.1.toNat; omega)
  ·show (((y.2.2.1.subs ++ [_]).length : Nat) : Int) + (y.1 - 1) = _
   rw [List.length_append,List.length_singleton]; omega
  ·intro s hs
   rcases List.mem_append.1 hs with hs | hs
   ·exact p7 s hs
   ·rw [List.mem_singleton] at hs; subst hs
    exact ⟨h27.1,h28.1,h29.1.1,by show r29.1.1 ≤ 15; omega⟩
end
section
open Go Go.RowKit
set_option maxRecDepth 100000
variable [Tb]
theorem arP {α β : Type} (a : α) (f : α → Option β) : (some a).bind f = f a := rfl
structure LenOk (c : Cfg) : Prop where
 ps : c.progs.length ≤ 1000000
 pl : ∀ p ∈ c.progs,p.length ≤ 1000000
 ss : c.subs.length ≤ 1000000
theorem aty {lv np : Int} : ∀ {ps : List (List Ins)},abz lv np ps = 0 → ∀ p ∈ ps,p.length ≤ 32
 | [],_,p,h =>by cases h
 | q :: ps,h,p,hm =>by
  unfold abz at h
  split at h
  ·omega
  ·split at h
   ·rcases List.mem_cons.1 hm with e | e
    ·subst e; omega
    ·exact aty h p e
   ·omega
theorem akX {c : Cfg} (h : ae4 c = 0) : akp c = true ∧ c.progs.length ≤ 32 ∧ (∀ p ∈ c.progs,p.length ≤ 32) ∧ c.subs.length ≤ 64 := by
 unfold ae4 at h
 split at h
 ·omega
 ·rename_i hn
  split at h
  ·omega
  ·rename_i hp
   have hp0 : adR c = 0 := by omega
   unfold adR at hp0
   split at hp0
   ·omega
   ·rename_i hl
    simp only [inB,Bool.not_eq_true',Bool.and_eq_false_iff,decide_eq_false_iff_not,not_or,Classical.not_not,Bool.not_eq_false,Bool.and_eq_true,decide_eq_true_eq] at hl
    refine ⟨by simpa using hn,by omega,aty hp0,?_⟩
    unfold ahj at h
    split at h
    ·omega
    ·omega
theorem LenOk.of {c : Cfg} (h : ae4 c = 0) : LenOk c := by
 obtain ⟨_,h1,h2,h3⟩ := akX h
 exact ⟨by omega,fun p hp =>by have := h2 p hp; omega,by omega⟩
abbrev ClS := Int × Int × Int × Int × Int × Int × Int × Int × Int × List (List Ins) × List Sub × Unit
def clS (c : Cfg) : ClS := (c.workers,c.levels,c.classes,c.tasks,c.deque,c.heap,c.batch,c.age,c.patience,c.progs,c.subs,())
theorem ayr {α : Type} {xs : List α} {i : Nat} {x : α} (h : xs[i]? = some x) : xs.set i x = xs := by
 obtain ⟨hlt,rfl⟩ := List.getElem?_eq_some_iff.1 h
 simp
theorem awY {c : Cfg} (h : LenOk c) : afy c = some ((c,()),()) := by
 have hg : aaI (afy c) fun o =>o.1.1 = c := by
  unfold afy
  have e0 : ahS c.progs = some ((c.progs,()),()) := by unfold ahS; rw [if_pos h.ps]
  rw [e0,arP]
  refine aaI.bind (P := fun z =>z.2.1 = clS c) (acr (fun x =>x.2.1 = clS c ∧ 0 ≤ x.1 ∧ x.1 ≤ (c.progs.length : Int)) (fun x =>((c.progs.length : Int) - x.1).toNat) (fun self x ⟨q0,q1,q2⟩ ih =>?_) _ _ ⟨rfl,Int.le_refl 0,by show (0 : Int) ≤ _; omega⟩ (by show ((c.progs.length : Int) - 0).toNat < _; have := h.ps; omega)) fun z hz =>?_
  rotate_left
  ·obtain ⟨i,s,u⟩ := x
   simp only at q0 q1 q2
   subst q0
   refine aaI.ite (fun hlt =>?_) fun _ =>.some_ rfl
   have hin : 0 ≤ i ∧ i < ((c.progs.length : Nat) : Int) := ⟨q1,hlt⟩
   refine aaI.guard (show 0 ≤ i ∧ i < (((clS c).2.2.2.2.2.2.2.2.2.1.length : Nat) : Int) from hin) fun _ =>?_
   have hm := h.pl _ (aun (d := (dfR 18 : List Ins)) hin)
   have e1 : aj4 (aAh (clS c).2.2.2.2.2.2.2.2.2.1 i) = some ((aAh c.progs i,()),()) := by
    unfold aj4; exact if_pos hm
   rw [e1,arP]
   refine aaI.guard (show 0 ≤ i ∧ i < (((clS c).2.2.2.2.2.2.2.2.2.1.length : Nat) : Int) from hin) fun _ =>?_
   have e2 : wi (i + 1) = i + 1 := aaF (aan (by have := h.ps; omega))
   have e3 : c.progs.set i.toNat (aAh c.progs i) = c.progs := ayr (aeI hin)
   rw [e2]
   refine ih _ ⟨?_,by show 0 ≤ i + 1; omega,by show i + 1 ≤ _; omega⟩ (by show ((c.progs.length : Int) - (i + 1)).toNat < ((c.progs.length : Int) - i).toNat; omega)
   show (c.workers,c.levels,c.classes,c.tasks,c.deque,c.heap,c.batch,c.age,c.patience,c.progs.set i.toNat (aAh c.progs i),c.subs,()) = clS c
   rw [e3]; rfl
  ·rw [hz]
   have e4 : ahR (clS c).2.2.2.2.2.2.2.2.2.2.1 = some ((c.subs,()),()) := by unfold ahR; exact if_pos h.ss
   rw [e4,arP]
   exact .some_ rfl
 obtain ⟨o,e,ho⟩ := hg
 rw [e]
 obtain ⟨⟨o1,⟨⟩⟩,⟨⟩⟩ := o
 simp only at ho
 rw [ho]
def aam (c : Cfg) : LayV := { workers := c.workers,levels := c.levels,classes := c.classes,tasks := c.tasks,deque := c.deque,heap := c.heap,sleepers := 4 + c.heap,epochs := 4 + c.heap + c.classes,bitmaps := 4 + c.heap + c.classes + c.workers,queues := 4 + c.heap + c.classes + c.workers + c.workers,table := 4 + c.heap + c.classes + c.workers + c.workers + c.workers * c.levels * (2 + c.deque) }
def aaM (c : Cfg) : Int := (aam c).table + 5 * c.tasks
theorem aBO {a b A B : Int} (ha : 0 ≤ a) (hA : a ≤ A) (hb : 0 ≤ b) (hB : b ≤ B) : 0 ≤ a * b ∧ a * b ≤ A * B :=
 ⟨Int.mul_nonneg ha hb,Int.le_trans (Int.mul_le_mul_of_nonneg_right hA hb) (Int.mul_le_mul_of_nonneg_left hB (Int.le_trans ha hA))⟩
theorem arc {c : Cfg} (h : akp c = true) : (0 ≤ c.workers * c.levels ∧ c.workers * c.levels ≤ 1024) ∧ (0 ≤ c.workers * c.levels * (2 + c.deque) ∧ c.workers * c.levels * (2 + c.deque) ≤ 67584) := by
 have hs := ah4 h
 have h1 := aBO (a := c.workers) (b := c.levels) (A := 16) (B := 64) (by omega) (by omega) (by omega) (by omega)
 have h2 := aBO (a := c.workers * c.levels) (b := 2 + c.deque) (A := 1024) (B := 66) h1.1 (by omega) (by omega) (by omega)
 omega
theorem azq {c : Cfg} (h : ae4 c = 0) : alN c = some ((aam c,0,()),()) := by
 have hn := (akX h).1
 have hs := ah4 hn
 have ht := arc hn
 unfold alN al5
 rw [arP]
 have e0 : ¬ ae4 c ≠ 0 := by omega
 simp only [if_neg e0]
 have e1 : wi (4 + c.heap) = 4 + c.heap := aaF (aan (by omega))
 have e2 : wi (4 + c.heap + c.classes) = 4 + c.heap + c.classes := aaF (aan (by omega))
 have e3 : wi (4 + c.heap + c.classes + c.workers) = 4 + c.heap + c.classes + c.workers := aaF (aan (by omega))
 have e4 : wi (4 + c.heap + c.classes + c.workers + c.workers) = 4 + c.heap + c.classes + c.workers + c.workers := aaF (aan (by omega))
 have e5 : wi (c.workers * c.levels) = c.workers * c.levels := aaF (aan (by omega))
 have e6 : wi (2 + c.deque) = 2 + c.deque := aaF (aan (by omega))
 have e7 : wi (c.workers * c.levels * (2 + c.deque)) = c.workers * c.levels * (2 + c.deque) := aaF (aan (by omega))
 have e8 : wi (4 + c.heap + c.classes + c.workers + c.workers + c.workers * c.levels * (2 + c.deque)) = 4 + c.heap + c.classes + c.workers + c.workers + c.workers * c.levels * (2 + c.deque) := aaF (aan (by omega))
 simp only [e1,e2,e3,e4,e5,e6,e7,e8]
 rfl
def axV : RecP := ⟨0,-1,0,0,-1,[],false⟩
def akt (c : Cfg) : EnvP := ⟨c,aam c,⟨List.replicate (aaM c).toNat 0,⟨0,0,0,0⟩,0⟩,⟨0,0⟩,List.replicate c.tasks.toNat axV,[]⟩
theorem awv {c : Cfg} (h : ae4 c = 0) : aeN c = some ((akt c,0,()),()) := by
 have hn := (akX h).1
 have hs := ah4 hn
 have ht := arc hn
 have hg : aaI (aeN c) fun o =>o.1.1 = akt c ∧ o.1.2.1 = 0 := by
  unfold aeN
  rw [azq h,arP]
  refine aaI.ite (fun e =>absurd rfl e) fun _ =>?_
  have c1 : wi (5 * c.tasks) = 5 * c.tasks := aaF (aan (by omega))
  have c2 : wi ((aam c).table + 5 * c.tasks) = aaM c := aaF (aan (by unfold aam; simp only; omega))
  have e1 : awn (aam c) = some ((aaM c,()),()) := by
   unfold awn
   have : wi (5 * (aam c).tasks) = 5 * c.tasks := c1
   rw [this,c2]
  rw [e1,arP]
  have hc : 0 ≤ aaM c ∧ aaM c ≤ 131072 := by unfold aaM aam; simp only; omega
  have e2 : ah5 (aaM c) = some ((⟨⟨0,0,0,0,0,0,0,0,0,[],[]⟩,⟨0,0,0,0,0,0,0,0,0,0,0⟩,⟨List.replicate (aaM c).toNat 0,⟨0,0,0,0⟩,0⟩,⟨0,0⟩,[],[]⟩,()),()) := by
   unfold ah5 apo asD
   have i1 : (if aaM c < 0 then (0 : Int) else aaM c) = aaM c := if_neg (by omega)
   have i2 : (if 131072 < aaM c then (131072 : Int) else aaM c) = aaM c := if_neg (by omega)
   have i3 : 0 ≤ aaM c ∧ aaM c ≤ 1099511627776 := by omega
   simp only [i1,i2,if_true,if_pos i3,arP]
  rw [e2,arP,awY (.of h),arP]
  simp only [if_true]
  refine aaI.bind (P := fun z =>z.2.1 = akt c) (acr (fun x =>0 ≤ x.1 ∧ x.1 ≤ c.tasks ∧ x.2.1 = { akt c with recs := List.replicate x.1.toNat axV }) (fun x =>(c.tasks - x.1).toNat) (fun self x ⟨q0,q1,q2⟩ ih =>?_) _ _ ⟨Int.le_refl 0,by show (0 : Int) ≤ _; omega,rfl⟩ (by show (c.tasks - 0).toNat < _; omega)) fun z hz =>.some_ ⟨hz,rfl⟩
  obtain ⟨i,e,u⟩ := x
  simp only at q0 q1 q2
  subst q2
  refine aaI.ite (fun hlt =>?_) fun hge =>.some_ ?_
  ·have hl : (List.replicate i.toNat axV).length = i.toNat := List.length_replicate
   refine aaI.guard ?_ fun _ =>?_
   ·show (((List.replicate i.toNat axV).length + 1 : Nat) : Int) < 100000000000
    rw [hl]
    have hlt' : i < c.tasks := hlt
    omega
   ·have hlt' : i < c.tasks := hlt
    have e2 : wi (i + 1) = i + 1 := aaF (aan (by omega))
    rw [e2]
    refine ih _ ⟨by show 0 ≤ i + 1; omega,by show i + 1 ≤ _; omega,?_⟩ (by show (c.tasks - (i + 1)).toNat < (c.tasks - i).toNat; omega)
    show ({ akt c with recs := List.replicate i.toNat axV ++ [axV] } : EnvP) = { akt c with recs := List.replicate (i + 1).toNat axV }
    have e3 : (i + 1).toNat = i.toNat + 1 := by omega
    rw [e3,List.replicate_succ']
  ·show ({ akt c with recs := List.replicate i.toNat axV } : EnvP) = akt c
   have : i = c.tasks := by have hge' : ¬ i < c.tasks := hge; omega
   rw [this]; rfl
 obtain ⟨o,e,ho1,ho2⟩ := hg
 rw [e]
 obtain ⟨⟨o1,o2,⟨⟩⟩,⟨⟩⟩ := o
 simp only at ho1 ho2
 rw [ho1,ho2]
end
section
open Go
variable [Tb]
theorem aAM {c : Cfg} (h : DecOk c) {t hp' : Int} (ht : 1 ≤ t ∧ t ≤ 12) (hh : 1 ≤ hp' ∧ hp' ≤ 8) : ae4 { c with tasks := t,heap := hp' } = 0 := by
 have hp : ∀ ps : List (List Ins),(∀ x ∈ ps,x ∈ c.progs) → abz c.levels c.progs.length ps = 0 := fun ps =>by
  induction ps with
  | nil =>intro _; rfl
  | cons p ps ih =>
   intro hm
   have h1 := h.pl p (hm p (List.mem_cons_self ..))
   unfold abz
   rw [if_neg (by omega),if_pos]
   ·exact ih fun x hx =>hm x (List.mem_cons_of_mem _ hx)
   ·refine List.all_eq_true.2 fun i hi =>?_
    have h2 := h.ps p (hm p (List.mem_cons_self ..)) i hi
    unfold aqq
    rcases h2 with ⟨a,b,d,e⟩ | ⟨a,b,d,e,f⟩ | ⟨a,b,d,e⟩
    ·rw [if_pos a]; simp only [inB,e,Bool.and_eq_true,decide_eq_true_eq,beq_self_eq_true,and_true]; omega
    ·rw [if_neg (by omega),if_pos a]; simp only [inB,Bool.and_eq_true,decide_eq_true_eq]; omega
    ·rw [if_neg (by omega),if_neg (by omega),if_pos a]; simp only [inB,e,Bool.and_eq_true,decide_eq_true_eq,beq_self_eq_true,and_true]; omega
 have hs : ∀ ss : List Sub,(∀ x ∈ ss,x ∈ c.subs) → adK c.levels c.progs.length ss = 0 := fun ss =>by
  induction ss with
  | nil =>intro _; rfl
  | cons s ss ih =>
   intro hm
   have h1 := h.ss s (hm s (List.mem_cons_self ..))
   have e : aoO c.levels c.progs.length s = 0 := by
    unfold aoO
    have e1 : inB s.prog 0 ((c.progs.length : Int) - 1) = true := by simp only [inB,Bool.and_eq_true,decide_eq_true_eq]; omega
    have e2 : inB s.level 0 (c.levels - 1) = true := by simp only [inB,Bool.and_eq_true,decide_eq_true_eq]; omega
    have e3 : inB s.deadline 0 16777215 = true := by simp only [inB,Bool.and_eq_true,decide_eq_true_eq]; omega
    rw [e1,e2,e3]; rfl
   unfold adK
   rw [if_pos e]
   exact ih fun x hx =>hm x (List.mem_cons_of_mem _ hx)
 have hn : akp { c with tasks := t,heap := hp' } = true := by
  have := h.w; have := h.l; have := h.k; have := h.t; have := h.q; have := h.h; have := h.b; have := h.a; have := h.p
  simp only [akp,inB,Bool.and_eq_true,decide_eq_true_eq]
  have e : (if c.levels < 8 then c.levels else 8) = c.levels := if_pos (by omega)
  rw [e]
  omega
 have hpa : adR { c with tasks := t,heap := hp' } = 0 := by
  have := h.pn
  unfold adR
  have e : inB (c.progs.length : Int) 1 32 = true := by simp only [inB,Bool.and_eq_true,decide_eq_true_eq]; omega
  rw [e]
  exact hp c.progs fun _ hx =>hx
 have hsa : ahj { c with tasks := t,heap := hp' } = 0 := by
  have := h.sn
  unfold ahj
  rw [if_neg (show ¬ 64 < c.subs.length by omega)]
  exact hs c.subs fun _ hx =>hx
 unfold ae4
 rw [hn,hpa]
 exact hsa
theorem af2 {c : Cfg} (h : DecOk c) : ae4 c = 0 := by
 have := h.h
 exact aAM h (t := c.tasks) (hp' := c.heap) h.t (by omega)
theorem avr {b : List Int} (hb : ∀ x ∈ b,0 ≤ x ∧ x ≤ 255) (hl : b.length ≤ 1000000) : aaI (aga b) fun o =>DecOk o.1.1 := by
 have := avo hb hl
 unfold aga
 refine this.bind fun o ho =>.some_ ?_
 exact ho
end
section
open Go Go.RowKit
set_option maxRecDepth 100000
variable [Tb]
theorem alY (m : MemV) : ab0 m = some ((m.count,()),(m,())) := id rfl
theorem aEU (m : MemV) : af9 m = some ((m.last,()),(m,())) := id rfl
structure EI (c : Cfg) (K : Nat) (e : EnvP) : Prop where
 ok : EOk K e
 l : e.l = aam c
 c : e.c = c
 ct : 0 ≤ e.m.count ∧ e.m.count ≤ K
 cl : e.m.cells.length ≤ 1000000
def mnC (c : Cfg) : Int := if 16 < c.workers then 16 else c.workers
def WI (c : Cfg) (K : Nat) (j : Int) (w : WorkerV MV) : Prop := ∃ k,w = acN (aam c) j k ∧ ahg K (mnC c) k
section
variable {c : Cfg} {K : Nat} {e : EnvP} {j : Int} {w : WorkerV MV} {l : ClientV MV}
theorem EI.many (h : EI c K e) : ab2 e = mnC c := by unfold ab2 mnC; rw [h.c]
theorem azg {m m' : MemV} (h : One m m') {K : Nat} (hc : 0 ≤ m.count ∧ m.count ≤ K) (hK : K ≤ 1000000) : (0 ≤ m'.count ∧ m'.count ≤ ((K + 3 : Nat) : Int)) ∧ m'.cells.length = m.cells.length := by
 cases h with
 | no =>exact ⟨by omega,rfl⟩
 | yes k a v h hk =>
  refine ⟨?_,by simp⟩
  show 0 ≤ wi (m.count + 1) ∧ wi (m.count + 1) ≤ _
  rw [aaF (aan (by omega))]
  omega
theorem EI.stp (h : EI c K e) (hK : K ≤ 1000000) {e' : EnvP} (s : Stp 2 e e') : EI c (K + 3) e' :=
 have h1 := azg s.m h.ct hK
 ⟨h.ok.step s,by rw [s.l]; exact h.l,by rw [s.c]; exact h.c,h1.1,by rw [h1.2]; exact h.cl⟩
theorem ahg.up {K L : Nat} (h : K ≤ L) {n : Int} {k : WorkS} (hw : ahg K n k) : ahg L n k := by
 obtain ⟨a,b,d,f,g⟩ := k
 cases g with
 | t7 s =>exact ⟨hw.1,Nat.le_trans hw.2 h⟩
 | t3 s =>exact hw
 | t4 s =>exact hw
 | _ =>trivial
theorem WI.up {K L : Nat} (h : K ≤ L) (hw : WI c K j w) : WI c L j w := by
 obtain ⟨k,h1,h2⟩ := hw
 exact ⟨k,h1,h2.up h⟩
theorem EI.up {L : Nat} (h : K ≤ L) (he : EI c K e) : EI c L e := ⟨⟨he.ok.dq,he.ok.tk,he.ok.ct,he.ok.wk,by have := he.ok.ev; omega,fun r hr =>by have := he.ok.kd r hr; omega⟩,he.l,he.c,by have := he.ct; omega,he.cl⟩
theorem EI.clk {k : ClkV} (he : EI c K e) : EI c K { e with k := k } := ⟨⟨he.ok.dq,he.ok.tk,he.ok.ct,he.ok.wk,he.ok.ev,he.ok.kd⟩,he.l,he.c,he.ct,he.cl⟩
theorem alE {x : EntV} {n : Int} (hn : 1 ≤ n ∧ n ≤ 1000) (h : x.kind = 0) : aaI (adp x n) fun o =>0 ≤ o.1.1 ∧ o.1.1 < n := by
 have h1 : Int.tmod x.value n < n ∧ -n < Int.tmod x.value n := by
  constructor
  ·exact Int.tmod_lt_of_pos _ (by omega)
  ·have h2 : Int.tmod (-x.value) n < n := Int.tmod_lt_of_pos _ (by omega)
   rw [Int.neg_tmod] at h2
   omega
 unfold adp
 rw [if_neg (fun h' =>h' h),if_neg (by omega),if_pos (by omega)]
 refine aaI.ite (fun hl =>?_) fun hl =>.some_ ⟨by show 0 ≤ Int.tmod x.value n; omega,h1.1⟩
 rw [aaF (aan (by omega))]
 exact .some_ ⟨by show 0 ≤ Int.tmod x.value n + n; omega,by show Int.tmod x.value n + n < n; omega⟩
end
theorem aC8 {c : Cfg} (h : DecOk c) : EI c 1 (akt c) := by
 have hn := (akX (af2 h)).1
 have ht := arc hn
 have h1 := h.w
 have h2 := h.l
 have h3 := h.k
 have h4 := h.t
 have h5 := h.q
 have h6 := h.h
 refine ⟨⟨?_,?_,?_,?_,Nat.zero_le _,fun r hr =>?_⟩,rfl,rfl,⟨Int.le_refl 0,by show (0 : Int) ≤ 1; omega⟩,?_⟩
 ·show 0 ≤ c.deque ∧ c.deque ≤ 65535; omega
 ·show c.tasks = ((List.replicate c.tasks.toNat axV).length : Int)
  rw [List.length_replicate]; omega
 ·show c.tasks = ((List.replicate c.tasks.toNat axV).length : Int)
  rw [List.length_replicate]; omega
 ·show 1 ≤ c.workers; omega
 ·have := List.eq_of_mem_replicate hr
  rw [this]
  exact Nat.zero_le _
 ·show (List.replicate (aaM c).toNat 0).length ≤ _
  rw [List.length_replicate]
  unfold aaM aam
  simp only
  omega
theorem aw0 {c : Cfg} (h : DecOk c) : agW c = some ((aju c.subs c.workers ⟨0,0,false,.n1⟩,()),()) := by
 unfold agW
 rw [awY (.of (af2 h)),bnd,if_pos rfl]
theorem akj {l : LayV} {j : Int} : adz j = some ((acN l j ⟨0,0,0,0,.top⟩,()),()) := rfl
theorem agb {x : Int} (h : 0 ≤ x ∧ x ≤ 1000000000000) : wu x = x := by
 show IntKind.u64.wrap x = x
 simp [IntKind.wrap,IntKind.signed,IntKind.bits,IntKind.min,IntKind.max]
 omega
def ckC (c : Cfg) (a : Int) : Int :=
 if a < 0 then 9 else if a = 0 then 0 else if a < 4 then 1 else if a < 4 + c.heap then 2 else if a < (aam c).queues then 3
 else if a < (aam c).table then (if (a - (aam c).queues) % (2 + c.deque) < 2 then 4 else 5)
 else if (a - (aam c).table) % 5 = 1 then 6 else 7
structure CellOk (c : Cfg) (a x : Int) : Prop where
 p : 0 ≤ x
 s : ckC c a = 2 → aos x 65535 < c.tasks
 r : ckC c a = 5 → x < c.tasks
 l : ckC c a = 6 → x < c.levels
def Fr (c : Cfg) (a : Int) : Prop := ckC c a ≠ 0 ∧ ckC c a ≠ 2 ∧ ckC c a ≠ 5 ∧ ckC c a ≠ 6
theorem Fr.ok {c : Cfg} {a x : Int} (h : Fr c a) (hx : 0 ≤ x) : CellOk c a x := ⟨hx,fun k =>absurd k h.2.1,fun k =>absurd k h.2.2.1,fun k =>absurd k h.2.2.2⟩
theorem aqs {c : Cfg} {a k : Int} (h : ckC c a = k) (hk : k = 1 ∨ k = 3 ∨ k = 4 ∨ k = 7 ∨ k = 9) : Fr c a := by
 unfold Fr; rw [h]; omega
section
variable {c : Cfg}
theorem DecOk.rg (h : DecOk c) : (0 ≤ c.workers * c.levels ∧ c.workers * c.levels ≤ 16) ∧ (0 ≤ c.workers * c.levels * (2 + c.deque) ∧ c.workers * c.levels * (2 + c.deque) ≤ 96) := by
 have h1 := h.w
 have h2 := h.l
 have h3 := h.q
 have e1 := aBO (a := c.workers) (b := c.levels) (A := 4) (B := 4) (by omega) (by omega) (by omega) (by omega)
 have e2 := aBO (a := c.workers * c.levels) (b := 2 + c.deque) (A := 16) (B := 6) e1.1 (by omega) (by omega) (by omega)
 omega
theorem ae2 : ckC c (-1) = 9 := by unfold ckC; rw [if_pos (by omega)]
theorem agj (h : DecOk c) : 4 + c.heap ≤ (aam c).queues ∧ (aam c).queues ≤ (aam c).table ∧ (aam c).table ≤ 200 ∧ (aam c).table = (aam c).queues + c.workers * c.levels * (2 + c.deque) := by
 have h1 := h.w
 have h2 := h.l
 have h3 := h.q
 have h4 := h.h
 have h5 := h.k
 have e := h.rg
 refine ⟨?_,?_,?_,?_⟩ <;> show _ <;> unfold aam <;> simp only <;> omega
theorem asx (h : DecOk c) {a : Int} (ha : 1 ≤ a ∧ a ≤ 3) : ckC c a = 1 := by
 unfold ckC; rw [if_neg (by omega),if_neg (by omega),if_pos (by omega)]
theorem az0 (h : DecOk c) {t f : Int} (ht : 0 ≤ t) (hf : 0 ≤ f ∧ f < 5) : ckC c ((aam c).table + f + t * 5) = if f = 1 then 6 else 7 := by
 have e := agj h
 have h4 := h.h
 unfold ckC
 rw [if_neg (by omega),if_neg (by omega),if_neg (by omega),if_neg (by omega),if_neg (by omega),if_neg (by omega)]
 by_cases hf1 : f = 1
 ·rw [if_pos (by omega),if_pos hf1]
 ·rw [if_neg (by omega),if_neg hf1]
theorem adO (h : DecOk c) {t f : Int} (hf : 0 ≤ f ∧ f < 5) : acP (aam c) t f = if 0 ≤ t ∧ t < c.tasks then (aam c).table + f + t * 5 else -1 := by
 have e := agj h
 have h4 := h.t
 have h5 := h.h
 have h6 := h.rg
 unfold acP atP
 have e1 : (aam c).tasks = c.tasks := rfl
 rw [e1]
 by_cases h1 : t < 0
 ·rw [if_pos h1,if_neg (by omega)]
 rw [if_neg h1]
 by_cases h2 : c.tasks ≤ t
 ·rw [if_pos h2,if_neg (by omega)]
 rw [if_neg h2,if_pos (by omega),aaF (x := (aam c).table + f) (aan (by omega)),aaF (x := t * 5) (aan (by omega)),aaF (aan (by omega))]
theorem aoo (h : DecOk c) {t f : Int} (hf : 0 ≤ f ∧ f < 5) : ckC c (acP (aam c) t f) = if 0 ≤ t ∧ t < c.tasks then (if f = 1 then 6 else 7) else 9 := by
 rw [adO h hf]
 split
 ·rename_i h1; rw [az0 h h1.1 hf]
 ·rw [ae2]
theorem asg (h : DecOk c) {t f : Int} (hf : 0 ≤ f ∧ f < 5) (hf1 : f ≠ 1) : Fr c (acP (aam c) t f) := by
 refine aqs rfl ?_
 rw [aoo h hf,if_neg hf1]
 split <;> omega
theorem agy (h : DecOk c) {t : Int} : Fr c (aaV (aam c) t) := asg h (by omega) (by omega)
theorem ash (h : DecOk c) {t : Int} : Fr c (acO (aam c) t) := asg h (by omega) (by omega)
theorem asf (h : DecOk c) {t : Int} : Fr c (aeJ (aam c) t) := asg h (by omega) (by omega)
theorem aoi (h : DecOk c) {t : Int} : Fr c (akm (aam c) t) := asg h (by omega) (by omega)
theorem apM (h : DecOk c) {a : Int} (ha : 1 ≤ a ∧ a ≤ 3) : Fr c a := aqs (asx h ha) (by omega)
theorem aIq {i n a w : Int} (hn : n ≤ 1000) (ha : 0 ≤ a ∧ a ≤ 1000) (hw : w = 1) : atP i n a w = if 0 ≤ i ∧ i < n then a + i else -1 := by
 subst hw
 unfold atP
 by_cases h1 : i < 0
 ·rw [if_pos h1,if_neg (by omega)]
 rw [if_neg h1]
 by_cases h2 : n ≤ i
 ·rw [if_pos h2,if_neg (by omega)]
 rw [if_neg h2,if_pos (by omega),Int.mul_one,aaF (x := i) (aan (by omega)),aaF (aan (by omega))]
theorem apW (h : DecOk c) {a : Int} (ha : 4 + c.heap ≤ a ∧ a < (aam c).queues) : ckC c a = 3 := by
 have h4 := h.h
 unfold ckC
 rw [if_neg (by omega),if_neg (by omega),if_neg (by omega),if_neg (by omega),if_pos (by omega)]
theorem ao5 : (aam c).queues = 4 + c.heap + c.classes + c.workers + c.workers := rfl
theorem asE (h : DecOk c) {w : Int} : ckC c (afd (aam c) w) = 3 ∨ ckC c (afd (aam c) w) = 9 := by
 have h1 := h.w
 have h4 := h.h
 have h5 := h.k
 unfold afd
 show ckC c (atP w c.workers (4 + c.heap + c.classes) 1) = 3 ∨ ckC c (atP w c.workers (4 + c.heap + c.classes) 1) = 9
 rw [aIq (show c.workers ≤ 1000 by omega) (show 0 ≤ 4 + c.heap + c.classes ∧ 4 + c.heap + c.classes ≤ 1000 by omega) rfl]
 split
 ·rename_i h'
  have h' : 0 ≤ w ∧ w < c.workers := h'
  refine .inl (apW h ?_)
  show 4 + c.heap ≤ 4 + c.heap + c.classes + w ∧ 4 + c.heap + c.classes + w < _
  rw [ao5]; omega
 ·exact .inr ae2
theorem aB5 (h : DecOk c) {w : Int} : Fr c (afd (aam c) w) := aqs rfl (by have := asE h (w := w); omega)
theorem ap7 (h : DecOk c) {w : Int} : ckC c (aaC (aam c) w) = 3 ∨ ckC c (aaC (aam c) w) = 9 := by
 have h1 := h.w
 have h4 := h.h
 have h5 := h.k
 unfold aaC
 show ckC c (atP w c.workers (4 + c.heap + c.classes + c.workers) 1) = 3 ∨ ckC c (atP w c.workers (4 + c.heap + c.classes + c.workers) 1) = 9
 rw [aIq (show c.workers ≤ 1000 by omega) (show 0 ≤ 4 + c.heap + c.classes + c.workers ∧ 4 + c.heap + c.classes + c.workers ≤ 1000 by omega) rfl]
 split
 ·rename_i h'
  have h' : 0 ≤ w ∧ w < c.workers := h'
  refine .inl (apW h ?_)
  show 4 + c.heap ≤ 4 + c.heap + c.classes + c.workers + w ∧ 4 + c.heap + c.classes + c.workers + w < _
  rw [ao5]; omega
 ·exact .inr ae2
theorem apN (h : DecOk c) {w : Int} : Fr c (aaC (aam c) w) := aqs rfl (by have := ap7 h (w := w); omega)
theorem ap6 (h : DecOk c) {w : Int} : ckC c (ahx (aam c) w) = 3 ∨ ckC c (ahx (aam c) w) = 9 := by
 have h1 := h.w
 have h4 := h.h
 have h5 := h.k
 unfold ahx
 show ckC c (atP w c.classes (4 + c.heap) 1) = 3 ∨ ckC c (atP w c.classes (4 + c.heap) 1) = 9
 rw [aIq (show c.classes ≤ 1000 by omega) (show 0 ≤ 4 + c.heap ∧ 4 + c.heap ≤ 1000 by omega) rfl]
 split
 ·rename_i h'
  have h' : 0 ≤ w ∧ w < c.classes := h'
  refine .inl (apW h ?_)
  show 4 + c.heap ≤ 4 + c.heap + w ∧ 4 + c.heap + w < _
  rw [ao5]; omega
 ·exact .inr ae2
theorem alZ (h : DecOk c) {i : Int} : ckC c (aeC (aam c) i) = 2 ∨ ckC c (aeC (aam c) i) = 9 := by
 have h4 := h.h
 unfold aeC
 show ckC c (atP i c.heap 4 1) = 2 ∨ ckC c (atP i c.heap 4 1) = 9
 rw [aIq (show c.heap ≤ 1000 by omega) (show (0 : Int) ≤ 4 ∧ (4 : Int) ≤ 1000 by omega) rfl]
 split
 ·rename_i h'
  have h' : 0 ≤ i ∧ i < c.heap := h'
  refine .inl ?_
  unfold ckC
  rw [if_neg (by omega),if_neg (by omega),if_neg (by omega),if_pos (by omega)]
 ·exact .inr ae2
theorem aED (h : DecOk c) {i x : Int} (h1 : 0 ≤ x) (h2 : aos x 65535 < c.tasks) : CellOk c (aeC (aam c) i) x := by
 have e := alZ h (i := i)
 exact ⟨h1,fun _ =>h2,fun k =>by omega,fun k =>by omega⟩
def bq (c : Cfg) (k : Int) : QV := ⟨(aam c).queues + k * (2 + c.deque),(aam c).queues + k * (2 + c.deque) + 1,(aam c).queues + k * (2 + c.deque) + 2,c.deque⟩
theorem aJt {i n a w : Int} (hn : n ≤ 10) (ha : 0 ≤ a ∧ a ≤ 1000) (hw : 0 ≤ w ∧ w ≤ 100) : atP i n a w = if 0 ≤ i ∧ i < n then a + i * w else -1 := by
 unfold atP
 by_cases h1 : i < 0
 ·rw [if_pos h1,if_neg (by omega)]
 rw [if_neg h1]
 by_cases h2 : n ≤ i
 ·rw [if_pos h2,if_neg (by omega)]
 have h3 := aBO (a := i) (b := w) (A := 10) (B := 100) (by omega) (by omega) (by omega) (by omega)
 rw [if_neg h2,if_pos (by omega),aaF (x := i * w) (aan (by omega)),aaF (aan (by omega))]
theorem ayL (h : DecOk c) (w v : Int) : (¬ ((0 ≤ w ∧ w < c.workers) ∧ 0 ≤ v ∧ v < c.levels) ∧ aaq (aam c) w v = ⟨-1,-1,-1,0⟩) ∨ (((0 ≤ w ∧ w < c.workers) ∧ 0 ≤ v ∧ v < c.levels) ∧ (0 ≤ w * c.levels + v ∧ w * c.levels + v < c.workers * c.levels) ∧ aaq (aam c) w v = bq c (w * c.levels + v)) := by
 have h1 := h.w
 have h2 := h.l
 have h3 := h.q
 have e := agj h
 have h4 := h.h
 have e1 := aBO (a := c.levels) (b := 2 + c.deque) (A := 4) (B := 6) (by omega) (by omega) (by omega) (by omega)
 have e2 : wi (c.levels * wi (2 + c.deque)) = c.levels * (2 + c.deque) := by
  rw [aaF (x := 2 + c.deque) (aan (by omega)),aaF (aan (by omega))]
 have e3 : wi (2 + c.deque) = 2 + c.deque := aaF (aan (by omega))
 have ea : atP w c.workers (aam c).queues (c.levels * (2 + c.deque)) = if 0 ≤ w ∧ w < c.workers then (aam c).queues + w * (c.levels * (2 + c.deque)) else -1 := aJt (by omega) (by omega) (by omega)
 unfold aaq
 show (¬ _ ∧ (if atP w c.workers (aam c).queues (wi (c.levels * wi (2 + c.deque))) < 0 then _ else if atP v c.levels (atP w c.workers (aam c).queues (wi (c.levels * wi (2 + c.deque)))) (wi (2 + c.deque)) < 0 then _
  else QV.mk (atP v c.levels (atP w c.workers (aam c).queues (wi (c.levels * wi (2 + c.deque)))) (wi (2 + c.deque))) (wi (atP v c.levels (atP w c.workers (aam c).queues (wi (c.levels * wi (2 + c.deque)))) (wi (2 + c.deque)) + 1)) (wi (atP v c.levels (atP w c.workers (aam c).queues (wi (c.levels * wi (2 + c.deque)))) (wi (2 + c.deque)) + 2)) c.deque) = _) ∨ (_ ∧ _ ∧ (if atP w c.workers (aam c).queues (wi (c.levels * wi (2 + c.deque))) < 0 then _ else if atP v c.levels (atP w c.workers (aam c).queues (wi (c.levels * wi (2 + c.deque)))) (wi (2 + c.deque)) < 0 then _
  else QV.mk (atP v c.levels (atP w c.workers (aam c).queues (wi (c.levels * wi (2 + c.deque)))) (wi (2 + c.deque))) (wi (atP v c.levels (atP w c.workers (aam c).queues (wi (c.levels * wi (2 + c.deque)))) (wi (2 + c.deque)) + 1)) (wi (atP v c.levels (atP w c.workers (aam c).queues (wi (c.levels * wi (2 + c.deque)))) (wi (2 + c.deque)) + 2)) c.deque) = _)
 rw [e2,e3,ea]
 by_cases hw : 0 ≤ w ∧ w < c.workers
 ·rw [if_pos hw]
  have e4 := aBO (a := w) (b := c.levels * (2 + c.deque)) (A := 4) (B := 24) (by omega) (by omega) (by omega) (by omega)
  have eb : atP v c.levels ((aam c).queues + w * (c.levels * (2 + c.deque))) (2 + c.deque) = if 0 ≤ v ∧ v < c.levels then (aam c).queues + w * (c.levels * (2 + c.deque)) + v * (2 + c.deque) else -1 := aJt (by omega) (by omega) (by omega)
  rw [if_neg (by omega),eb]
  by_cases hv : 0 ≤ v ∧ v < c.levels
  ·rw [if_pos hv]
   have e5 := aBO (a := v) (b := 2 + c.deque) (A := 4) (B := 6) (by omega) (by omega) (by omega) (by omega)
   have e6 := aBO (a := w) (b := c.levels) (A := 4) (B := 4) (by omega) (by omega) (by omega) (by omega)
   have e7 : (w * c.levels + v) * (2 + c.deque) = w * (c.levels * (2 + c.deque)) + v * (2 + c.deque) := by rw [Int.add_mul,Int.mul_assoc]
   rw [if_neg (by omega)]
   refine .inr ⟨⟨hw,hv⟩,⟨by omega,?_⟩,?_⟩
   ·have : c.levels = 1 ∨ c.levels = 2 ∨ c.levels = 3 ∨ c.levels = 4 := by omega
    rcases this with e | e | e | e <;> rw [e] at hv ⊢ <;> omega
   ·unfold bq
    rw [e7,aaF (aan (by omega)),aaF (aan (by omega)),← Int.add_assoc]
  ·rw [if_neg hv,if_pos (by omega)]; exact .inl ⟨fun h =>hv h.2,rfl⟩
 ·rw [if_neg hw,if_pos (by omega)]; exact .inl ⟨fun h =>hw h.1,rfl⟩
theorem aeD (h : DecOk c) (w v : Int) : aaq (aam c) w v = ⟨-1,-1,-1,0⟩ ∨ ∃ k,0 ≤ k ∧ k < c.workers * c.levels ∧ aaq (aam c) w v = bq c k := by
 rcases ayL h w v with ⟨_,e⟩ | ⟨_,⟨e1,e2⟩,e⟩
 ·exact .inl e
 ·exact .inr ⟨_,e1,e2,e⟩
theorem apX (h : DecOk c) {k j : Int} (hk : 0 ≤ k ∧ k < c.workers * c.levels) (hj : 0 ≤ j ∧ j < 2 + c.deque) : ckC c ((aam c).queues + k * (2 + c.deque) + j) = if j < 2 then 4 else 5 := by
 have e := agj h
 have h4 := h.h
 have h3 := h.q
 have e1 : (k + 1) * (2 + c.deque) ≤ c.workers * c.levels * (2 + c.deque) := Int.mul_le_mul_of_nonneg_right (by omega) (by omega)
 have e2 : (k + 1) * (2 + c.deque) = k * (2 + c.deque) + (2 + c.deque) := by rw [Int.add_mul,Int.one_mul]
 have e3 : 0 ≤ k * (2 + c.deque) := Int.mul_nonneg hk.1 (by omega)
 have e4 : ((aam c).queues + k * (2 + c.deque) + j - (aam c).queues) % (2 + c.deque) = j := by
  have : (aam c).queues + k * (2 + c.deque) + j - (aam c).queues = j + k * (2 + c.deque) := by omega
  rw [this,Int.add_mul_emod_self_right,Int.emod_eq_of_lt hj.1 hj.2]
 unfold ckC
 rw [if_neg (by omega),if_neg (by omega),if_neg (by omega),if_neg (by omega),if_neg (by omega),if_pos (by omega),e4]
theorem aC3 (h : DecOk c) (w v : Int) : Fr c (aaq (aam c) w v).top := by
 have h3 := h.q
 rcases aeD h w v with e | ⟨k,h1,h2,e⟩ <;> rw [e]
 ·exact aqs ae2 (by omega)
 ·have := apX h ⟨h1,h2⟩ (j := 0) (by omega)
  rw [Int.add_zero,if_pos (by omega)] at this
  exact aqs this (by omega)
theorem alV (h : DecOk c) (w v : Int) : Fr c (aaq (aam c) w v).bottom := by
 have h3 := h.q
 rcases aeD h w v with e | ⟨k,h1,h2,e⟩ <;> rw [e]
 ·exact aqs ae2 (by omega)
 ·have := apX h ⟨h1,h2⟩ (j := 1) (by omega)
  rw [if_pos (by omega)] at this
  exact aqs this (by omega)
theorem al0 (h : DecOk c) (w v : Int) {b : Int} (hb : 0 ≤ b) : ckC c (agY (aaq (aam c) w v) b) = 5 ∨ ckC c (agY (aaq (aam c) w v) b) = 9 := by
 have h3 := h.q
 rcases aeD h w v with e | ⟨k,h1,h2,e⟩ <;> rw [e]
 ·refine .inr ?_
  unfold agY
  rw [if_pos (by show (0 : Int) < 1; omega),ae2]
 ·refine .inl ?_
  have e0 := agj h
  have h4 := h.h
  have h5 := h.rg
  have e1 := ara (a := b) (b := c.deque) (by omega) hb
  have e2 : k * (2 + c.deque) ≤ c.workers * c.levels * (2 + c.deque) := Int.mul_le_mul_of_nonneg_right (by omega) (by omega)
  have e3 : 0 ≤ k * (2 + c.deque) := Int.mul_nonneg h1 (by omega)
  unfold agY bq
  simp only
  rw [if_neg (by omega),agb (x := c.deque) (by omega),aaF (x := Int.tmod b c.deque) (aan (by omega)),aaF (aan (by omega))]
  have := apX h ⟨h1,h2⟩ (j := 2 + Int.tmod b c.deque) (by omega)
  rw [if_neg (by omega),← Int.add_assoc] at this
  exact this
theorem aEE (h : DecOk c) (w v : Int) {b x : Int} (hb : 0 ≤ b) (hx : 0 ≤ x ∧ x < c.tasks) : CellOk c (agY (aaq (aam c) w v) b) x := by
 have e := al0 h w v hb
 exact ⟨hx.1,fun k =>by omega,fun k =>hx.2,fun k =>by omega⟩
end
end
end Go.Proofs.YteapeojalliebaaGreat
