/- A separation logic over the walk's rules: cells and objects that a call owns,registers that are known,operations one at a time. No program occurs here. The judgements of the separation logic: operations one at a time,code by its form. No program occurs here. The operations,one law each. No program occurs here. Loads,stores,fresh memory,calls. No program occurs here. The words of our proofs: plain data of the program (configurations,events),slices of structs read as lists,what a call that makes memory leaves of the rest. No program occurs here. A law on regions that draw their order: a part that only reads (or makes memory of its own),then a chain. No program occurs here. Loops; slices of the call's own; regions with a quiet head. No program occurs here. Names for places in lists. No program occurs here. Slices: of the call's own (rows),and slices that came in. No program occurs here. Rows that are written; what is owned seen as what came in; pieces. No program occurs here. Regions that draw their order,operation by operation: one that looks at no memory may be taken first; one that alone may come up; a group that only reads. No program occurs here. Evaluation by itself,1: symbolic values,registers,operations on registers alone. No program occurs here. -/
import Derived.WalkKit
import Derived.WalkSpells
import Derived.WalkLawsBesides
import Derived.Lib.Hide
import Derived.Deep.QuietTactic
import Derived.BigQuiet
import Derived.KernelRfl
import Derived.OrdersIn
import Derived.TacticsIn
import Derived.StillTail
import Derived.Deep.LoopGhost
import Derived.IntWalk
set_option linter.all false
namespace Go.Proofs.YtidhehdanppcoaaGreat
section
open Go Go.RowKit
inductive Item where
 | cell (v:Value)
 | obj (o:Obj)
 | look (v:Value)
def Obj.plain:Obj→Bool
 | .cells .. =>false
 | _ =>true
abbrev Hp:=Nat→Nat→Option Item
def auM (x y:Option Item):Prop:=x=none∨y=none∨∃ v,x=some (.look v)∧y=some (.look v)
def apart (h k:Hp):Prop:=∀ b o,auM (h b o) (k b o)
def ad3 (h k:Hp):Hp:=fun b o =>match h b o with
 | some x =>some x
 | none =>k b o
abbrev aad:=Hp→Prop
def abW:List aad→aad
 | [],_ =>True
 | A::L,h =>∃ k1 k2,apart k1 k2∧h=ad3 k1 k2∧A k1∧abW L k2
def agF (w:World) (b o:Nat):Item→Prop
 | .cell v =>w.cell? ⟨b,o,none⟩=some v∧w.frozen? ⟨b,o,none⟩=false
 | .obj x =>w.heap[b]?=some x∧Obj.plain x=true∧o=0
 | .look v =>w.cell? ⟨b,o,none⟩=some v
def Item.low:Item→Prop
 | .look _ =>True
 | _ =>False
def aFm (B:Nat) (w:World) (h:Hp):Prop:=∀ b o x,h b o=some x→(B≤b∨x.low)∧agF w b o x
def Sat (B:Nat) (w:World) (L:List aad):Prop:=∃ h,aFm B w h∧abW L h
theorem auM.symm {x y:Option Item} (s:auM x y):auM y x:=by
 rcases s with e | e | ⟨v,e1,e2⟩
 ·exact .inr (.inl e)
 ·exact .inl e
 ·exact .inr (.inr ⟨v,e2,e1⟩)
theorem aat {h k:Hp} (a:apart h k):apart k h:=fun b o =>(a b o).symm
theorem aq7 {h k:Hp} (a:apart h k):ad3 h k=ad3 k h:=by
 funext b o
 unfold ad3
 rcases a b o with e | e | ⟨v,e1,e2⟩
 ·rw [e]; cases k b o<;>rfl
 ·rw [e]; cases h b o<;>rfl
 ·rw [e1,e2]
theorem adU (a b c:Hp):ad3 (ad3 a b) c=ad3 a (ad3 b c):=by
 funext x y; unfold ad3; cases a x y<;>rfl
theorem azS {a b c:Hp}:apart (ad3 a b) c↔apart a c∧(∀ x y,a x y=none→auM (b x y) (c x y)):=by
 constructor
 ·intro h
  refine ⟨fun x y =>?_,fun x y e =>?_⟩
  ·have:=h x y
   unfold ad3 at this
   cases ha:a x y with
   | none =>exact .inl rfl
   | some v =>rw [ha] at this; exact this
  ·have:=h x y
   unfold ad3 at this
   rw [e] at this; exact this
 ·rintro ⟨h1,h2⟩ x y
  unfold ad3
  cases ha:a x y with
  | none =>exact h2 x y ha
  | some v =>have:=h1 x y; rw [ha] at this; exact this
theorem aa9 {a b c:Hp} (ab:apart a b):apart (ad3 a b) c↔apart a c∧apart b c:=by
 rw [azS]
 constructor
 ·rintro ⟨h1,h2⟩
  refine ⟨h1,fun x y =>?_⟩
  rcases ab x y with e | e | ⟨v,e1,e2⟩
  ·exact h2 x y e
  ·exact .inl e
  ·have:=h1 x y; rw [e1] at this; rw [e2]; exact this
 ·rintro ⟨h1,h2⟩
  exact ⟨h1,fun x y _ =>h2 x y⟩
theorem aqo {A B:aad} {L:List aad} {h:Hp} (s:abW (A::B::L) h):abW (B::A::L) h:=by
 obtain ⟨k1,k2,a,e,hA,k3,k4,a',e',hB,hL⟩:=s
 subst e'
 have a1:=(aa9 a').1 (aat a)
 refine ⟨k3,ad3 k1 k4,?_,?_,hB,k1,k4,aat a1.2,rfl,hA,hL⟩
 ·exact aat ((aa9 (aat a1.2)).2 ⟨aat a1.1,aat a'⟩)
 ·rw [e,← adU,← adU,aq7 (aat a1.1)]
theorem abp {A:aad} {L L':List aad} (f:∀ h,abW L h→abW L' h) {h:Hp} (s:abW (A::L) h):abW (A::L') h:=by
 obtain ⟨k1,k2,a,e,hA,hL⟩:=s
 exact ⟨k1,k2,a,e,hA,f _ hL⟩
theorem aaJ {A A':aad} {L:List aad} (f:∀ h,A h→A' h) {h:Hp} (s:abW (A::L) h):abW (A'::L) h:=by
 obtain ⟨k1,k2,a,e,hA,hL⟩:=s
 exact ⟨k1,k2,a,e,f _ hA,hL⟩
theorem abM {L L':List aad} (p:L.Perm L'):∀ {h:Hp},abW L h→abW L' h:=by
 induction p with
 | nil =>exact id
 | cons x _ ih =>exact abp (fun h =>ih)
 | swap x y l =>exact aqo
 | trans _ _ ih1 ih2 =>exact fun s =>ih2 (ih1 s)
theorem aaj {L M:List aad}:∀ {h:Hp},abW (L++M) h↔∃ k1 k2,apart k1 k2∧h=ad3 k1 k2∧abW L k1∧abW M k2:=by
 induction L with
 | nil =>
  intro h
  constructor
  ·exact fun s =>⟨fun _ _ =>none,h,fun _ _ =>.inl rfl,by funext x y; rfl,trivial,s⟩
  ·rintro ⟨k1,k2,a,e,_,s⟩
   -- the first part may own more than is asked
   have:∀ {M:List aad} {k h:Hp},apart k h→abW M h→abW M (ad3 k h):=by
    intro M
    induction M with
    | nil =>exact fun _ _ =>trivial
    | cons A M ih =>
     intro k h a s
     obtain ⟨x,y,a',e',hA,hM⟩:=s
     subst e'
     have a2:=(aa9 a').1 (aat a)
     refine ⟨x,ad3 k y,?_,?_,hA,ih (aat a2.2) hM⟩
     ·exact aat ((aa9 (aat a2.2)).2 ⟨aat a2.1,aat a'⟩)
     ·rw [← adU,← adU,aq7 (aat a2.1)]
   rw [e]; exact this a s
 | cons A L ih =>
  intro h
  constructor
  ·rintro ⟨k1,k2,a,e,hA,hL⟩
   obtain ⟨k3,k4,a',e',h3,h4⟩:=ih.1 hL
   subst e'
   have a2:=(aa9 a').1 (aat a)
   exact ⟨ad3 k1 k3,k4,(aa9 (aat a2.1)).2 ⟨aat a2.2,a'⟩,by rw [e,adU],⟨k1,k3,aat a2.1,rfl,hA,h3⟩,h4⟩
  ·rintro ⟨k1,k2,a,e,⟨x,y,a',e',hA,hL⟩,hM⟩
   subst e'
   have a2:=(aa9 a').1 a
   exact ⟨x,ad3 y k2,aat ((aa9 a2.2).2 ⟨aat a',aat a2.1⟩),by rw [e,adU],hA,ih.2 ⟨y,k2,a2.2,rfl,hL,hM⟩⟩
def aGA (L:List aad):aad:=abW L
section
variable {B:Nat} {w w':World} {L L' M:List aad} {A A':aad}
theorem Sat.imp (f:∀ h,abW L h→abW L' h) (s:Sat B w L):Sat B w L':=let ⟨h,a,b⟩:=s; ⟨h,a,f h b⟩
theorem Sat.perm (s:Sat B w L) (p:L.Perm L'):Sat B w L':=s.imp fun _ =>abM p
theorem Sat.fold (s:Sat B w (L++M)):Sat B w (L++[aGA M]):=s.imp fun _ h =>by
 obtain ⟨k1,k2,a,e,h1,h2⟩:=aaj.1 h
 exact aaj.2 ⟨k1,k2,a,e,h1,k2,fun _ _ =>none,fun _ _ =>.inr (.inl rfl),by funext x y; unfold ad3; cases k2 x y<;>rfl,h2,trivial⟩
theorem Sat.unfold (s:Sat B w (L++[aGA M])):Sat B w (L++M):=s.imp fun _ h =>by
 obtain ⟨k1,k2,a,e,h1,k3,k4,a',e',h3,_⟩:=aaj.1 h
 refine aaj.2 ⟨k1,k2,a,e,h1,?_⟩
 subst e'
 have:abW (M++[]) (ad3 k3 k4):=aaj.2 ⟨k3,k4,a',rfl,h3,trivial⟩
 simpa using this
theorem aFm.mono {h:Hp} (H:aFm B w h) (f:∀ b o x,(B≤b∨x.low)→agF w b o x→agF w' b o x):aFm B w' h:=fun b o x e =>⟨(H b o x e).1,f b o x (H b o x e).1 (H b o x e).2⟩
theorem agF.lt {b o:Nat} {x:Item} (h:agF w b o x):b<w.heap.size:=by
 rcases Nat.lt_or_ge b w.heap.size with hlt | hge
 ·exact hlt
 ·have e:=Array.getElem?_eq_none hge
  cases x with
  | cell v =>unfold agF at h; unfold World.cell? at h; rw [e] at h; cases h.1
  | obj o =>unfold agF at h; rw [e] at h; cases h.1
  | look v =>unfold agF at h; unfold World.cell? at h; rw [e] at h; cases h
theorem agF.same {b o:Nat} {x:Item} (h:agF w b o x) (e:w'.heap[b]?=w.heap[b]?):agF w' b o x:=by
 cases x with
 | cell v =>unfold agF at *; unfold World.cell? World.frozen? at *; rwa [e]
 | obj o =>unfold agF at *; rwa [e]
 | look v =>unfold agF at *; unfold World.cell? at *; rwa [e]
theorem Sat.below (s:Sat B w L) (h:Below w.heap.size w w'):Sat B w' L :=
 let ⟨k,a,b⟩:=s
 ⟨k,a.mono fun _ _ _ _ i =>i.same (h.block _ i.lt),b⟩
theorem Sat.drop (s:Sat B w (A::L)):Sat B w L :=
 let ⟨_,H,k1,k2,a,e,_,hL⟩:=s
 ⟨k2,fun b o x hx =>H b o x (by rw [e]; unfold ad3; rcases a b o with h1 | h1 | ⟨v,h1,h2⟩<;>simp_all),hL⟩
theorem Sat.nil (B:Nat) (w:World):Sat B w []:=⟨fun _ _ =>none,(fun _ _ _ (e:none=some _) =>by cases e),trivial⟩
end
def pts (b o:Nat) (vs:List Value):aad:=fun h =>∀ i v,vs[i]?=some v→h b (o+i)=some (.cell v)
section
variable {B:Nat} {w:World} {L:List aad} {b o:Nat} {vs:List Value}
theorem Sat.cell (s:Sat B w (pts b o vs::L)) {i:Nat} {v:Value} (hi:vs[i]?=some v):B≤b∧w.cell? ⟨b,o+i,none⟩=some v∧w.frozen? ⟨b,o+i,none⟩=false:=by
 obtain ⟨h,H,k1,k2,a,e,hA,hL⟩:=s
 have:=H b (o+i) (.cell v) (by rw [e]; unfold ad3; rw [hA i v hi])
 exact ⟨this.1.resolve_right id,this.2⟩
theorem akQ (w:World) (p q:Addr) (u:Value) (h:p.block≠q.block∨p.off≠q.off) (hs:p.spot=none) (hq:q.spot=none):(w.setCell p u).cell? q=w.cell? q:=by
 unfold World.setCell World.cell?
 simp only [Array.getElem?_modify]
 by_cases e:p.block=q.block
 ·rw [if_pos e]
  have ho:p.off≠q.off:=by rcases h with h | h; exact absurd e h; exact h
  cases hw:w.heap[q.block]? with
  | none =>rfl
  | some x =>cases x<;>simp [hs,hq,ho]
 ·rw [if_neg e]
theorem ary (w:World) (b o:Nat) (u v:Value) (h:w.cell? ⟨b,o,none⟩=some v):(w.setCell ⟨b,o,none⟩ u).cell? ⟨b,o,none⟩=some u:=by
 unfold World.setCell World.cell? at *
 simp only [Array.getElem?_modify,if_true]
 cases hw:w.heap[b]? with
 | none =>rw [hw] at h; cases h
 | some x =>
  rw [hw] at h
  cases x<;>simp at h ⊢
  obtain ⟨hlt,_⟩:=Array.getElem?_eq_some_iff.1 h
  simp [hlt]
theorem alM (w:World) (p q:Addr) (u:Value):(w.setCell p u).frozen? q=w.frozen? q:=by
 unfold World.setCell World.frozen?
 simp only [Array.getElem?_modify]
 by_cases e:p.block=q.block
 ·rw [if_pos e]
  cases hw:w.heap[q.block]? with
  | none =>rfl
  | some x =>cases x<;>rfl
 ·rw [if_neg e]
theorem awX (w:World) (p:Addr) (u:Value) (b:Nat) (x:Obj) (h:w.heap[b]?=some x) (hx:Obj.plain x=true):(w.setCell p u).heap[b]?=some x:=by
 unfold World.setCell
 simp only [Array.getElem?_modify]
 split
 ·rw [h]; cases x<;>simp_all [Obj.plain]
 ·exact h
theorem Sat.store (s:Sat B w (pts b o vs::L)) {i:Nat} (hi:i<vs.length) (u:Value):Sat B (w.setCell ⟨b,o+i,none⟩ u) (pts b o (vs.set i u)::L):=by
 obtain ⟨h,H,k1,k2,a,e,hA,hL⟩:=s
 have hv:vs[i]?=some vs[i]:=List.getElem?_eq_getElem hi
 have h1:=hA i _ hv
 refine ⟨ad3 (fun b' o' =>if b'=b∧o'=o+i then some (.cell u) else k1 b' o') k2,?_,_,k2,?_,rfl,?_,hL⟩
 ·intro b' o' x hx
  by_cases hc:b'=b∧o'=o+i
  ·obtain ⟨rfl,rfl⟩:=hc
   have h2:=H b' (o+i) (.cell vs[i]) (by rw [e]; unfold ad3; rw [h1])
   unfold ad3 at hx
   simp only [and_self,if_true] at hx
   obtain rfl:=Option.some.inj hx
   exact ⟨h2.1,ary _ _ _ _ _ h2.2.1,(alM _ _ _ _).trans h2.2.2⟩
  ·have hx':h b' o'=some x:=by
    rw [e]; unfold ad3 at hx ⊢
    simp only [if_neg hc] at hx
    exact hx
   have h2:=H b' o' x hx'
   refine ⟨h2.1,?_⟩
   cases x with
   | cell v =>
    have h3:=h2.2
    unfold agF at h3 ⊢
    refine ⟨(akQ _ _ _ _ ?_ rfl rfl).trans h3.1,(alM _ _ _ _).trans h3.2⟩
    by_cases hb:b'=b
    ·right; intro ho; exact hc ⟨hb,ho.symm⟩
    ·left; exact fun h =>hb h.symm
   | obj x =>exact ⟨awX _ _ _ _ _ h2.2.1 h2.2.2.1,h2.2.2⟩
   | look v =>
    have h3:=h2.2
    unfold agF at h3 ⊢
    refine (akQ _ _ _ _ ?_ rfl rfl).trans h3
    by_cases hb:b'=b
    ·right; intro ho; exact hc ⟨hb,ho.symm⟩
    ·left; exact fun h =>hb h.symm
 ·intro b' o'
  by_cases hc:b'=b∧o'=o+i
  ·obtain ⟨rfl,rfl⟩:=hc
   rcases a b' (o+i) with h2 | h2 | ⟨v,h2,_⟩
   ·rw [h1] at h2; cases h2
   ·exact .inr (.inl h2)
   ·rw [h1] at h2; cases h2
  ·simp only [if_neg hc]; exact a b' o'
 ·intro j v hj
  by_cases e:j=i
  ·subst e
   have:v=u:=by simpa [hi] using hj.symm
   subst this
   simp
  ·rw [List.getElem?_set_ne (by omega)] at hj
   have:¬ (b=b∧o+j=o+i):=by omega
   show (if b=b∧o+j=o+i then _ else k1 b (o+j))=_
   rw [if_neg this]
   exact hA j v hj
theorem Sat.fresh {cs:Array Value} {T:TypeId} (s:Sat B w L) (hB:B≤w.heap.size):Sat B (w.alloc (.cells cs T)) (pts w.heap.size 0 cs.toList::L):=by
 obtain ⟨h,H,hL⟩:=s
 have hfar:∀ o,h w.heap.size o=none:=fun o =>by
  cases e:h w.heap.size o with
  | none =>rfl
  | some x =>exact absurd (H _ _ _ e).2.lt (by omega)
 refine ⟨ad3 (fun b' o' =>if b'=w.heap.size then (cs[o']?).map .cell else none) h,?_,_,h,?_,rfl,?_,hL⟩
 ·intro b' o' x hx
  unfold ad3 at hx
  by_cases hb:b'=w.heap.size
  ·subst hb
   simp only [if_true,hfar] at hx
   cases hc:cs[o']? with
   | none =>rw [hc] at hx; cases hx
   | some v =>
    rw [hc] at hx
    obtain rfl:=Option.some.inj hx
    refine ⟨.inl hB,?_,?_⟩
    ·rw [cell_of_row _ _ _ _ _ _ (heap_alloc_new w (.cells cs T))]; exact hc
    ·unfold World.frozen?; rw [heap_alloc_new w (.cells cs T)]; simp
  ·simp only [if_neg hb] at hx
   have h2:=H b' o' x hx
   refine ⟨h2.1,h2.2.same ?_⟩
   exact Below.heap_alloc w _ _ h2.2.lt
 ·intro b' o'
  by_cases hb:b'=w.heap.size
  ·subst hb; exact .inr (.inl (hfar o'))
  ·left; simp [hb]
 ·intro i v hi
  have:cs[i]?=some v:=by simpa using hi
  simp [this]
end
theorem an3 {b o:Nat} {xs ys:List Value} {h:Hp} (p:pts b o (xs++ys) h):pts b o xs h∧pts b (o+xs.length) ys h:=by
 refine ⟨fun i v hi =>p i v ?_,fun i v hi =>?_⟩
 ·rw [List.getElem?_append_left]
  ·exact hi
  ·rcases Nat.lt_or_ge i xs.length with h1 | h1
   ·exact h1
   ·rw [List.getElem?_eq_none h1] at hi; cases hi
 ·have:=p (xs.length+i) v (by rw [List.getElem?_append_right (by omega)]; simpa using hi)
  rwa [← Nat.add_assoc] at this
abbrev adM:=List (Nat×Value)
structure Regs (n:Nat) (a:Act) (R:adM):Prop where
 size:a.tmps.size=n
 defers:a.defers=[]
 has:∀ p∈R,a.tmps[p.1]?=some p.2
structure Sta (n B:Nat) (W:World) (R:adM) (L:List aad) (a:Act) (w:World):Prop where
 regs:Regs n a R
 below:Below B W w
 lo:B≤w.heap.size
 sat:Sat B w L
inductive EvalR (R:adM):Operand→Value→Prop where
 | tmp {t:Nat} {v:Value} (h:(t,v)∈R):EvalR R (.tmp t) v
 | const {v:Value}:EvalR R (.const v) v
 | func {f:FuncId}:EvalR R (.func f) (.func (.func f) #[] #[])
inductive EvalRs (R:adM):List Operand→List Value→Prop where
 | nil:EvalRs R [] []
 | cons {x:Operand} {v:Value} {xs:List Operand} {vs:List Value} (h:EvalR R x v) (t:EvalRs R xs vs):EvalRs R (x::xs) (v::vs)
theorem EvalR.eval {n:Nat} {a:Act} {R:adM} {x:Operand} {v:Value} (h:EvalR R x v) (r:Regs n a R):a.eval x=v:=by
 cases h with
 | tmp h =>have:=r.has _ h; simp only at this; simp [Act.eval,Array.getD_eq_getD_getElem?,this]
 | const =>rfl
 | func =>rfl
theorem EvalRs.eval {n:Nat} {a:Act} {R:adM} {xs:List Operand} {vs:List Value} (h:EvalRs R xs vs) (r:Regs n a R):xs.map a.eval=vs:=by
 induction h with
 | nil =>rfl
 | cons h _ ih =>rw [List.map_cons,h.eval r,ih]
inductive Pick {α:Type _}:List α→α→List α→Prop where
 | head {x:α} {l:List α}:Pick (x::l) x l
 | tail {x y:α} {l l':List α} (h:Pick l x l'):Pick (y::l) x (y::l')
theorem Pick.perm {α:Type _} {l l':List α} {x:α} (h:Pick l x l'):l.Perm (x::l'):=by
 induction h with
 | head =>exact .refl _
 | tail _ ih =>exact (ih.cons _).trans (.swap ..)
theorem Pick.of_mem {α:Type _} {l:List α} {x:α} (h:x∈l):∃ l',Pick l x l':=by
 induction l with
 | nil =>cases h
 | cons y l ih =>
  rcases List.mem_cons.1 h with e | e
  ·subst e; exact ⟨_,.head⟩
  ·obtain ⟨l',p⟩:=ih e; exact ⟨_,.tail p⟩
inductive Turn {α:Type _}:List α→α→α→List α→Prop where
 | head {x y:α} {l:List α}:Turn (x::l) x y (y::l)
 | tail {x y z:α} {l l':List α} (h:Turn l x y l'):Turn (z::l) x y (z::l')
theorem Turn.perm {α:Type _} {l l':List α} {x y:α} (h:Turn l x y l'):∃ m,l.Perm (x::m)∧l'.Perm (y::m):=by
 induction h with
 | head =>exact ⟨_,.refl _,.refl _⟩
 | tail _ ih =>obtain ⟨m,h1,h2⟩:=ih; exact ⟨_,(h1.cons _).trans (.swap ..),(h2.cons _).trans (.swap ..)⟩
inductive Picks {α:Type _}:List α→List α→List α→Prop where
 | nil {l:List α}:Picks l [] l
 | cons {x:α} {l l' l'' xs:List α} (h:Pick l x l') (t:Picks l' xs l''):Picks l (x::xs) l''
theorem Picks.perm {α:Type _} {l xs l':List α} (h:Picks l xs l'):l.Perm (xs++l'):=by
 induction h with
 | nil =>exact .refl _
 | cons h _ ih =>exact h.perm.trans (ih.cons _)
def asp (n:Nat) (R:adM) (d:Nat):Bool:=Nat.blt d n && R.all fun p =>p.1 != d
def Put (n:Nat) (R:adM) (d:Option Tmp) (v:Value) (R':adM):Prop:=∀ a,Regs n a R→Regs n (a.put d v) R'
section
variable {n:Nat} {R R0 R':adM} {d:Nat} {v u:Value}
theorem aBO (h:asp n R d=true):d<n:=by
 unfold asp at h; simp only [Bool.and_eq_true] at h; exact Nat.le_of_ble_eq_true h.1
theorem aBN (h:asp n R d=true) {p:Nat×Value} (hp:p∈R):p.1≠d:=by
 unfold asp at h; simp only [Bool.and_eq_true,List.all_eq_true] at h
 simpa using h.2 p hp
theorem aG9 (h:asp n R d=true):Put n R (some d) v ((d,v)::R):=fun a r =>by
 have hd:=aBO h
 refine ⟨by simp [Act.put,r.size],r.defers,fun p hp =>?_⟩
 rcases List.mem_cons.1 hp with e | e
 ·subst e; simp [Act.put,r.size,hd]
 ·have:=aBN h e
  simp only [Act.put]
  rw [Array.getElem?_setIfInBounds_ne (by omega)]
  exact r.has p e
theorem Regs.sub {a:Act} (r:Regs n a R) (h:∀ p∈R',p∈R):Regs n a R':=⟨r.size,r.defers,fun p hp =>r.has p (h p hp)⟩
theorem aDQ:Put n R none v R:=fun _ r =>r
end
def akX (ops:Array Oper) (R:adM):Option (Nat×Bool)→Bool→Prop
 | none,b =>b=true
 | some (j,c),b =>(∃ o d x,ops[j]?=some o∧o.dst=some d∧(d,Value.bool x)∈R∧(x == c)=b)∨(b=false∧∃ o d,ops[j]?=some o∧o.dst=some d∧(d,undef)∈R)
theorem azm {ops:Array Oper} {R:adM}:akX ops R none true:=rfl
theorem anM {ops:Array Oper} {R:adM} {j:Nat} {c x:Bool} {o:Oper} {d:Nat} (h:ops[j]?=some o) (hd:o.dst=some d) (hm:(d,Value.bool x)∈R) {b:Bool} (hb:(x == c)=b):akX ops R (some (j,c)) b:=.inl ⟨o,d,x,h,hd,hm,hb⟩
theorem awi {ops:Array Oper} {R:adM} {j:Nat} {c:Bool} {o:Oper} {d:Nat} (h:ops[j]?=some o) (hd:o.dst=some d) (hm:(d,undef)∈R):akX ops R (some (j,c)) false:=.inr ⟨rfl,o,d,h,hd,hm⟩
theorem akX.spec {ops:Array Oper} {R:adM} {o:Oper} {b:Bool} (h:akX ops R o.guard b) {n:Nat} {a:Act} (r:Regs n a R):Region.wanted o (yielded ops a.tmps)=b:=by
 unfold Region.wanted
 generalize o.guard=g at h
 cases g with
 | none =>exact h.symm
 | some p =>
  obtain ⟨j,c⟩:=p
  rcases h with ⟨oj,d,x,h1,h2,h3,h4⟩ | ⟨hb,oj,d,h1,h2,h3⟩
  ·have h5:=r.has _ h3
   simp only at h5
   have hlt:d<a.tmps.size:=(Array.getElem?_eq_some_iff.1 h5).1
   subst h4
   have h6:a.tmps[d]=.bool x:=(Array.getElem?_eq_some_iff.1 h5).2
   simp [yielded,h1,h2,h5,hlt,h6]
  ·have h5:=r.has _ h3
   simp only at h5
   have hlt:d<a.tmps.size:=(Array.getElem?_eq_some_iff.1 h5).1
   have h6:a.tmps[d]=undef:=(Array.getElem?_eq_some_iff.1 h5).2
   subst hb
   simp [yielded,h1,h2,h5,hlt,h6,undef]
def rf (r:Option Nat):Fence:={ fn:=fun _ =>True,depth:=none,alive:=false,round:=r }
section
variable (r:Option Nat) (P:Program) (ops:Array Oper) (Q:Exit→Act→World→Prop) (n B:Nat) (W:World)
def Cls (L:List aad) (w:World):Prop:=Below B W w∧B≤w.heap.size∧Sat B w L
def OQ (o:Oper) (R:adM) (L:List aad) (v:Value):Prop:=∀ a w,Sta n B W R L a w→o.quietAt P a (Cls B W L) w v
def OP (o:Oper) (R:adM) (v:Value):Prop:=∀ a w,Regs n a R→(execOp a.eval o).run P w=.ok (.value v) w
def akZ {X:Type} (C:X→World→Prop) (v:X→Value):Result Next→Prop
 | .ok (.value u) w' =>∃ x,u=v x∧C x w'
 | .ok .skip w' =>∃ x,v x=undef∧C x w'
 | .ok (.enter f args) w' =>Calls P f args w' fun e w'' =>∃ x,e=.returned (v x)∧C x w''
 | _ =>False
def OT (o:Oper) (R:adM) (L:List aad) {X:Type} (v:X→Value) (L':X→List aad):Prop :=
 ∀ a w,Sta n B W R L a w→akZ P (fun x w' =>Cls B W (L' x) w') v ((execOp a.eval o).run P w)
def RT (l:List Oper) (R:adM) (L:List aad):Prop:=∀ a w,Sta n B W R L a w→wpListIn (rf r) 0 P ops Q l a w
def CT (c:Code) (R:adM) (L:List aad):Prop:=∀ a w,Sta n B W R L a w→c.wpIn (rf r) 0 P Q a w
def ET (e:Exit) (R:adM) (L:List aad):Prop:=∀ a w,Sta n B W R L a w→Q e a w
end
section
variable {r:Option Nat} {P:Program} {ops:Array Oper} {Q:Exit→Act→World→Prop} {n B:Nat} {W:World} {R R' R0:adM} {L L' M:List aad} {o:Oper} {v:Value} {rest:List Oper}
theorem as4 {a:Act} {w:World} {C:World→Prop} (h:(execOp a.eval o).run P w=.ok (.value v) w):o.quietAt P a C w v:=by
 unfold Oper.quietAt; rw [h]; exact ⟨rfl,rfl⟩
theorem OP.q (h:OP P n o R v):OQ P n B W o R L v:=fun a w s =>as4 (h a w s.regs)
theorem azN {f:FuncId} {args:Array Value} {w:World} {S:Ending→World→Prop} {k:Nat} (h:Calls P f args w S):CallsIn (rf r) k P f args w S :=
 show CallsIn Fence.wide k P f args w S from callsIn_wide.2 h
theorem aEh {a:Act} {w:World} (h:∀ d w',(execOp a.eval o).run P w≠.ok (.defer d) w') (h':∀ x w',(execOp a.eval o).run P w≠.halt x w'):Oper.semAt r a.eval o=execOp a.eval o :=
 Oper.semAt_eq r a.eval o fun c hc =>by
  have e:execOp a.eval o=(do pure (Next.defer (← resolve a.eval c o.type))):=by unfold execOp; rw [hc]
  rw [e] at h h'
  cases hr:(resolve a.eval c o.type).run P w with
  | ok d w' =>exact h d w' (by rw [Sem.run_bind,hr]; rfl)
  | halt x w' =>exact h' x w' (by rw [Sem.run_bind,hr]; rfl)
theorem aqd {X:Type} {v:X→Value} {a:Act} {w:World} {C:X→World→Prop} {K':Act→World→Prop} {Q':Exit→Act→World→Prop} (h3:akZ P C v ((execOp a.eval o).run P w)) (h:∀ x w',C x w'→K' (a.put o.dst (v x)) w'):o.wpIn (rf r) 0 P a w K' Q':=by
 have hs:Oper.semAt r a.eval o=execOp a.eval o:=aEh (P:=P) (w:=w) (fun d w' e =>by rw [e] at h3; exact h3) (fun x w' e =>by rw [e] at h3; exact h3)
 refine ⟨fun _ _ =>trivial,?_⟩
 show Oper.uponIn (rf r) 0 P o a K' Q' ((Oper.semAt r a.eval o).run P w)
 rw [hs]
 generalize (execOp a.eval o).run P w=res at *
 cases res with
 | ok x w' =>
  cases x<;>simp only [akZ] at h3<;>simp only [Oper.uponIn]
  case value u =>obtain ⟨x,rfl,hc⟩:=h3; exact h _ _ hc
  case skip =>obtain ⟨x,e,hc⟩:=h3; rw [← e]; exact h _ _ hc
  case enter f args =>
   refine ⟨(fun e =>(by cases e)),azN (h3.mono fun e w'' ⟨x,he,hw''⟩ =>?_)⟩
   subst he; exact h _ _ hw''
 | halt x w' =>simp only [akZ] at h3
theorem aJi (h:ET Q n B W .normal R L):RT r P ops Q n B W [] R L:=fun a w s =>h a w s
theorem Cls.st {a:Act} {w:World} (h:Cls B W L w) (r:Regs n a R):Sta n B W R L a w:=⟨r,h.1,h.2.1,h.2.2⟩
theorem Sta.cls {a:Act} {w:World} (s:Sta n B W R L a w):Cls B W L w:=⟨s.below,s.lo,s.sat⟩
theorem aGY (hg:akX ops R o.guard false) (hp:Put n R o.dst undef R') (K:RT r P ops Q n B W rest R' L):RT r P ops Q n B W (o::rest) R L:=fun a w s =>by
 unfold wpListIn
 rw [if_neg (by rw [hg.spec s.regs]; exact Bool.false_ne_true)]
 exact ⟨fun _ _ =>trivial,K _ _ (s.cls.st (hp a s.regs))⟩
theorem aCc {id:Nat} {l:List Oper} (h:RT r P l.toArray Q n B W l R L):CT r P Q n B W (.region id l.toArray false) R L:=fun a w s =>wpIn_region_lit (h a w s)
theorem aE3 {w:World} (h:Cls B W L w):Cls B W L { w with drawn:=w.drawn+1 } :=
 ⟨h.1.drew,h.2.1,h.2.2.below ((Below.refl _ _).drew)⟩
theorem aIo (h:ET Q n B W .normal R L):CT r P Q n B W .skip R L:=fun a w s =>wpIn_skip (h a w s)
theorem aIp {id:Nat} (h:ET Q n B W (.exit id) R L):CT r P Q n B W (.exit id) R L:=fun a w s =>wpIn_exit (h a w s)
theorem aKN (h:ET Q n B W .ret R L):CT r P Q n B W .ret R L:=fun a w s =>wpIn_ret (h a w s)
theorem aCb {x y:Code} (h:CT r P (Exit.then (y.wpIn (rf r) 0 P Q) Q) n B W x R L):CT r P Q n B W (.seq x y) R L:=fun a w s =>wpIn_seq (h a w s)
theorem aEX {id:Nat} {c:Code} (h:CT r P (Exit.inBlock id Q) n B W c R L):CT r P Q n B W (.block id c) R L:=fun a w s =>wpIn_block (h a w s)
theorem aIg {y:Code} (h:CT r P Q n B W y R L):ET (Exit.then (y.wpIn (rf r) 0 P Q) Q) n B W .normal R L:=fun a w s =>h a w s
theorem ao3 {N:Act→World→Prop} {id:Nat} (h:ET Q n B W (.exit id) R L):ET (Exit.then N Q) n B W (.exit id) R L:=fun a w s =>h a w s
theorem ark {N:Act→World→Prop} (h:ET Q n B W .ret R L):ET (Exit.then N Q) n B W .ret R L:=fun a w s =>h a w s
theorem aEN {id:Nat} (h:ET Q n B W .normal R L):ET (Exit.inBlock id Q) n B W .normal R L:=fun a w s =>h a w s
theorem avH {id:Nat} (h:ET Q n B W .ret R L):ET (Exit.inBlock id Q) n B W .ret R L:=fun a w s =>h a w s
theorem atS {id:Nat} (h:ET Q n B W .normal R L):ET (Exit.inBlock id Q) n B W (.exit id) R L:=fun a w s =>by
 unfold Exit.inBlock; simpa using h a w s
theorem atR {id id':Nat} (hne:(id' == id)=false) (h:ET Q n B W (.exit id') R L):ET (Exit.inBlock id Q) n B W (.exit id') R L:=fun a w s =>by
 have:id'≠id:=by simpa using hne
 unfold Exit.inBlock; simpa [this] using h a w s
theorem aMi {c:Operand} {x y:Code} {p:Prop} [Decidable p] (hc:EvalR R c (.bool (decide p))) (h1:p→CT r P Q n B W x R L) (h2:¬p→CT r P Q n B W y R L):CT r P Q n B W (.cond c x y) R L:=fun a w s =>by
 by_cases hp:p
 ·exact wpIn_cond_true ((hc.eval s.regs).trans (by simp [hp])) (h1 hp a w s)
 ·exact wpIn_cond_false ((hc.eval s.regs).trans (by simp [hp])) (h2 hp a w s)
theorem aKO {c:Operand} {x y:Code} {b:Bool} (hc:EvalR R c (.bool b)) (h1:b=true→CT r P Q n B W x R L) (h2:b=false→CT r P Q n B W y R L):CT r P Q n B W (.cond c x y) R L:=fun a w s =>by
 cases b with
 | true =>exact wpIn_cond_true (hc.eval s.regs) (h1 rfl a w s)
 | false =>exact wpIn_cond_false (hc.eval s.regs) (h2 rfl a w s)
theorem aIn {c:Operand} {x y:Code} (hc:EvalR R c (.bool true)) (h:CT r P Q n B W x R L):CT r P Q n B W (.cond c x y) R L:=fun a w s =>wpIn_cond_true (hc.eval s.regs) (h a w s)
theorem aEW {c:Operand} {x y:Code} (hc:EvalR R c (.bool false)) (h:CT r P Q n B W y R L):CT r P Q n B W (.cond c x y) R L:=fun a w s =>wpIn_cond_false (hc.eval s.regs) (h a w s)
end
section
variable {P:Program} {n B:Nat} {W:World} {R R':adM} {L L' M:List aad} {v u:Value} {x y z:Operand}
 {d:Option Tmp} {ty:TypeId} {ps:String} {af:Array Edge} {g:Option (Nat×Bool)} {T T':TypeId}
theorem acw {w:World} {t:TypeDesc} (h:P.underlying T=some t):(Go.underlying T).run P w=.ok t w:=by simp [Go.underlying,program,Sem.run,h,pure,bind,Sem.bind]
theorem acn {w:World} {i:TypeInfo} (h:P.info? T=some i):(typeInfo T).run P w=.ok i w:=by simp [typeInfo,program,Sem.run,h,pure,bind,Sem.bind]
theorem aHs (hx:EvalR R x v):OP P n ⟨d,.move x,ty,ps,af,g⟩ R v:=fun a w s =>by
 simp only [execOp,hx.eval s]; rfl
theorem aBn (hx:EvalR R x v):OP P n ⟨d,.assign x,ty,ps,af,g⟩ R v:=fun a w s =>by
 simp only [execOp,hx.eval s]; rfl
theorem aHq {b:Bool} (hc:EvalR R x (.bool b)) (hy:EvalR R (if b then y else z) v):OP P n ⟨d,.pick x y z,ty,ps,af,g⟩ R v:=fun a w s =>by
 have:=hy.eval s
 cases b<;>simp only [execOp,hc.eval s]<;>simp only [Bool.false_eq_true,if_false,if_true] at this<;>simp [asBool,this]
theorem azB {vs:Array Value} {i:Nat} (hx:EvalR R x (.tuple vs)) (hi:vs[i]?=some v):OP P n ⟨d,.extract x i,ty,ps,af,g⟩ R v:=fun a w s =>by
 simp [execOp,hx.eval s,Instr.extract,hi]
theorem avk {T:TypeId} {u:Value} (hx:EvalR R x (.iface T u)):OP P n ⟨d,.nilCheck x,ty,ps,af,g⟩ R (.iface T u):=fun a w s =>by
 simp only [execOp,hx.eval s]
 rfl
theorem awV {p:Addr} (hx:EvalR R x (.pointer (some p))):OP P n ⟨d,.nilCheck x,ty,ps,af,g⟩ R (.pointer (some p)):=fun a w s =>by
 simp [execOp,hx.eval s]
section
variable {k k':IntKind} {a b c:Int}
theorem aJY (hx:EvalR R x (.int k a)) (hy:EvalR R y (.int k b)) (hz:k.wrap (a+b)=c):OP P n ⟨d,.binOp .add T x y T',ty,ps,af,g⟩ R (.int k c):=fun ac w s =>by
 subst hz
 cases k<;>simp [execOp,hx.eval s,hy.eval s,eqGuard,binOp,Op.intArith]
theorem aJF (hx:EvalR R x (.int k a)) (hy:EvalR R y (.int k b)) (hz:k.wrap (a-b)=c):OP P n ⟨d,.binOp .sub T x y T',ty,ps,af,g⟩ R (.int k c):=fun ac w s =>by
 subst hz
 cases k<;>simp [execOp,hx.eval s,hy.eval s,eqGuard,binOp,Op.intArith]
theorem aJN (hx:EvalR R x (.int k a)) (hy:EvalR R y (.int k b)) (hz:k.wrap (a*b)=c):OP P n ⟨d,.binOp .mul T x y T',ty,ps,af,g⟩ R (.int k c):=fun ac w s =>by
 subst hz
 cases k<;>simp [execOp,hx.eval s,hy.eval s,eqGuard,binOp,Op.intArith]
theorem aJJ (hx:EvalR R x (.int k a)) (hy:EvalR R y (.int k b)) (h0:b≠0) (hz:k.wrap (a.tdiv b)=c):OP P n ⟨d,.binOp .quo T x y T',ty,ps,af,g⟩ R (.int k c):=fun ac w s =>by
 subst hz
 cases k<;>simp [execOp,hx.eval s,hy.eval s,eqGuard,binOp,Op.intDiv,h0]
theorem aJI (hx:EvalR R x (.int k a)) (hy:EvalR R y (.int k b)) (h0:b≠0) (hz:a.tmod b=c):OP P n ⟨d,.binOp .rem T x y T',ty,ps,af,g⟩ R (.int k c):=fun ac w s =>by
 subst hz
 cases k<;>simp [execOp,hx.eval s,hy.eval s,eqGuard,binOp,Op.intDiv,h0]
theorem aJX (hx:EvalR R x (.int k a)) (hy:EvalR R y (.int k b)) (hz:k.wrap (BitVec.ofInt k.bits a &&& BitVec.ofInt k.bits b).toNat=c):OP P n ⟨d,.binOp .and T x y T',ty,ps,af,g⟩ R (.int k c):=fun ac w s =>by
 subst hz
 cases k<;>simp [execOp,hx.eval s,hy.eval s,eqGuard,binOp,Op.intBits]
theorem aLH (hx:EvalR R x (.int k a)) (hy:EvalR R y (.int k b)) (hz:k.wrap (BitVec.ofInt k.bits a ||| BitVec.ofInt k.bits b).toNat=c):OP P n ⟨d,.binOp .or T x y T',ty,ps,af,g⟩ R (.int k c):=fun ac w s =>by
 subst hz
 cases k<;>simp [execOp,hx.eval s,hy.eval s,eqGuard,binOp,Op.intBits]
theorem aJE (hx:EvalR R x (.int k a)) (hy:EvalR R y (.int k b)) (hz:k.wrap (BitVec.ofInt k.bits a ^^^ BitVec.ofInt k.bits b).toNat=c):OP P n ⟨d,.binOp .xor T x y T',ty,ps,af,g⟩ R (.int k c):=fun ac w s =>by
 subst hz
 cases k<;>simp [execOp,hx.eval s,hy.eval s,eqGuard,binOp,Op.intBits]
theorem aBo (hx:EvalR R x (.int k a)) (hy:EvalR R y (.int k b)) (hz:k.wrap (BitVec.ofInt k.bits a &&& ~~~ BitVec.ofInt k.bits b).toNat=c):OP P n ⟨d,.binOp .andNot T x y T',ty,ps,af,g⟩ R (.int k c):=fun ac w s =>by
 subst hz
 cases k<;>simp [execOp,hx.eval s,hy.eval s,eqGuard,binOp,Op.intBits]
theorem aJH (hx:EvalR R x (.int k a)) (hy:EvalR R y (.int k' b)) (h0:0≤b) (hz:k.wrap (a*2 ^ min b.toNat k.bits)=c):OP P n ⟨d,.binOp .shl T x y T',ty,ps,af,g⟩ R (.int k c):=fun ac w s =>by
 subst hz
 have:¬ b<0:=by omega
 simp [execOp,hx.eval s,hy.eval s,eqGuard,binOp,Op.shift,this]
theorem aJG (hx:EvalR R x (.int k a)) (hy:EvalR R y (.int k' b)) (h0:0≤b) (hz:a.fdiv (2 ^ min b.toNat k.bits)=c):OP P n ⟨d,.binOp .shr T x y T',ty,ps,af,g⟩ R (.int k c):=fun ac w s =>by
 subst hz
 have:¬ b<0:=by omega
 simp [execOp,hx.eval s,hy.eval s,eqGuard,binOp,Op.shift,this]
theorem aJQ (hx:EvalR R x (.int k a)) (hy:EvalR R y (.int k b)):OP P n ⟨d,.binOp .lss T x y T',ty,ps,af,g⟩ R (.bool (decide (a<b))):=fun ac w s =>by
 cases k<;>simp [execOp,hx.eval s,hy.eval s,eqGuard,binOp,Op.intCmp]
theorem aJR (hx:EvalR R x (.int k a)) (hy:EvalR R y (.int k b)):OP P n ⟨d,.binOp .leq T x y T',ty,ps,af,g⟩ R (.bool (decide (a≤b))):=fun ac w s =>by
 cases k<;>simp [execOp,hx.eval s,hy.eval s,eqGuard,binOp,Op.intCmp]
theorem aJS (hx:EvalR R x (.int k a)) (hy:EvalR R y (.int k b)):OP P n ⟨d,.binOp .gtr T x y T',ty,ps,af,g⟩ R (.bool (decide (b<a))):=fun ac w s =>by
 cases k<;>simp [execOp,hx.eval s,hy.eval s,eqGuard,binOp,Op.intCmp]
theorem aJT (hx:EvalR R x (.int k a)) (hy:EvalR R y (.int k b)):OP P n ⟨d,.binOp .geq T x y T',ty,ps,af,g⟩ R (.bool (decide (b≤a))):=fun ac w s =>by
 cases k<;>simp [execOp,hx.eval s,hy.eval s,eqGuard,binOp,Op.intCmp]
theorem aJU (hx:EvalR R x (.int k a)) (hy:EvalR R y (.int k b)):OP P n ⟨d,.binOp .eql T x y T',ty,ps,af,g⟩ R (.bool (decide (a=b))):=fun ac w s =>by
 cases k<;>simp [execOp,hx.eval s,hy.eval s,eqGuard,binOp,Op.intCmp]<;>rfl
theorem aJL (hx:EvalR R x (.int k a)) (hy:EvalR R y (.int k b)):OP P n ⟨d,.binOp .neq T x y T',ty,ps,af,g⟩ R (.bool (decide (a≠b))):=fun ac w s =>by
 have e:(a != b)=decide (a≠b):=by rw [bne]; by_cases h:a=b<;>simp [h]
 cases k<;>simp only [execOp,hx.eval s,hy.eval s,eqGuard,binOp,Op.intCmp,e]<;>rfl
theorem aJV {a b:Bool} (hT:P.underlying T=some .bool) (hx:EvalR R x (.bool a)) (hy:EvalR R y (.bool b)):OP P n ⟨d,.binOp .eql T x y T',ty,ps,af,g⟩ R (.bool (decide (a=b))):=fun ac w s =>by
 have e:(a == b)=decide (a=b):=by cases a<;>cases b<;>rfl
 simp only [execOp,hx.eval s,hy.eval s,eqGuard]
 simp [go_sem,hT,e]
theorem aHr {a b:Bool} (hT:P.underlying T=some .bool) (hx:EvalR R x (.bool a)) (hy:EvalR R y (.bool b)):OP P n ⟨d,.binOp .neq T x y T',ty,ps,af,g⟩ R (.bool (decide (a≠b))):=fun ac w s =>by
 have e:(!(a == b))=decide (a≠b):=by cases a<;>cases b<;>rfl
 simp only [execOp,hx.eval s,hy.eval s,eqGuard]
 simp [go_sem,hT,e]
theorem aJK {p:Prop} [Decidable p] (hx:EvalR R x (.bool (decide p))):OP P n ⟨d,.unOp .not T x,ty,ps,af,g⟩ R (.bool (decide (¬ p))):=fun ac w s =>by
 simp [execOp,hx.eval s,Op.unary]
theorem aBm {b:Bool} (hx:EvalR R x (.bool b)):OP P n ⟨d,.unOp .not T x,ty,ps,af,g⟩ R (.bool (!b)):=fun ac w s =>by
 simp [execOp,hx.eval s,Op.unary]
theorem aJM (hx:EvalR R x (.int k a)) (hz:k.wrap (0-a)=c):OP P n ⟨d,.unOp .neg T x,ty,ps,af,g⟩ R (.int k c):=fun ac w s =>by
 subst hz
 simp [execOp,hx.eval s,Op.unary,Op.intArith]
theorem aJW (hx:EvalR R x (.int k a)) (hz:k.wrap (BitVec.ofInt k.bits (if k.signed then -1 else k.max) ^^^ BitVec.ofInt k.bits a).toNat=c):OP P n ⟨d,.unOp .xor T x,ty,ps,af,g⟩ R (.int k c):=fun ac w s =>by
 subst hz
 simp [execOp,hx.eval s,Op.unary,Op.intBits]
theorem aHt {k1:IntKind} (hx:EvalR R x (.int k a)) (hs:P.underlying T=some (.int k1)) (ht:P.underlying T'=some (.int k')) (hz:k'.wrap a=c):OP P n ⟨d,.convert T T' x,ty,ps,af,g⟩ R (.int k' c):=fun ac w s =>by
 subst hz
 simp only [execOp,hx.eval s,convert]
 simp [go_sem,acw hs,acw ht,Conv.intToInt]
theorem avl {p:Option Addr} {len cap:Nat} {E:TypeId} (hx:EvalR R x (.slice p len cap)) (hT:P.underlying T=some (.slice E)):OP P n ⟨d,.call ⟨.builtin .len,#[x],#[T]⟩,ty,ps,af,g⟩ R (.int .i64 len):=fun ac w s =>by
 simp only [execOp,resolve,List.map_toArray,List.map_cons,List.map_nil,hx.eval s]
 simp [go_sem,invoke,builtin,Builtin.len_,acw hT,goInt]
theorem aJO (hx:EvalR R x (.int k a)) (hy:EvalR R y (.int k' b)) {Ts:Array TypeId}:OP P n ⟨d,.call ⟨.builtin .min,#[x,y],Ts⟩,ty,ps,af,g⟩ R (.int k (if b<a then b else a)):=fun ac w s =>by
 simp only [execOp,resolve,List.map_toArray,List.map_cons,List.map_nil,hx.eval s,hy.eval s]
 simp [invoke,builtin,Builtin.min_,Builtin.min2]
theorem aJP (hx:EvalR R x (.int k a)) (hy:EvalR R y (.int k' b)) {Ts:Array TypeId}:OP P n ⟨d,.call ⟨.builtin .max,#[x,y],Ts⟩,ty,ps,af,g⟩ R (.int k (if a<b then b else a)):=fun ac w s =>by
 simp only [execOp,resolve,List.map_toArray,List.map_cons,List.map_nil,hx.eval s,hy.eval s]
 simp [invoke,builtin,Builtin.max_,Builtin.max2]
end
theorem awW {f:FuncId} {xs:List Operand} {vs:List Value} (hx:EvalRs R xs vs):OP P n ⟨d,.makeFunc (.func f) #[] xs.toArray,ty,ps,af,g⟩ R (.func (.func f) #[] vs.toArray):=fun a w s =>by
 have:=hx.eval s
 simp only [execOp,List.map_toArray,this]
 rfl
theorem ael (b o k:Nat):(Addr.mk b o none).add k=⟨b,o+k,none⟩:=by
 unfold Addr.add; split
 ·subst_vars; rfl
 ·rfl
def atO (P:Program) (T:TypeId) (f:Nat):Option Nat :=
 match P.underlying T with
 | some (.struct fs) =>match fs[f]? with
  | some fd =>match P.info? fd.type with
   | some i =>if i.size=0 then none else some fd.offset
   | none =>none
  | none =>none
 | _ =>none
theorem aEb {b o k o':Nat} {f:Nat} (hx:EvalR R x (.pointer (some ⟨b,o,none⟩))) (hf:atO P T f=some k) (ho:o+k=o'):OP P n ⟨d,.fieldAddr T x f,ty,ps,af,g⟩ R (.pointer (some ⟨b,o',none⟩)):=fun ac w s =>by
 subst ho
 unfold atO at hf
 split at hf<;>try contradiction
 rename_i fs hU
 split at hf<;>try contradiction
 rename_i fd hfd
 split at hf<;>try contradiction
 rename_i i hi
 split at hf
 ·contradiction
 ·rename_i hz
  obtain rfl:=Option.some.inj hf
  simp only [execOp,hx.eval s]
  simp [Instr.fieldAt,acw hU,hfd,Instr.sureAddr,fieldPlace,sizeOf,acn hi,hz,ael]
def ahn (P:Program) (T:TypeId):Option Nat :=
 match P.underlying T with
 | some (.slice E) =>(P.info? E).map (·.size)
 | _ =>none
theorem ajo {k:IntKind} {b o len cap i sz o':Nat} {j:Int} (hx:EvalR R x (.slice (some ⟨b,o,none⟩) len cap)) (hy:EvalR R y (.int k j)) (hj:j=(i:Int)) (hlt:i<len) (hs:ahn P T=some sz) (ho:o+i*sz=o') :
  OP P n ⟨d,.indexAddr T x y,ty,ps,af,g⟩ R (.pointer (some ⟨b,o',none⟩)):=fun ac w s =>by
 subst hj ho
 unfold ahn at hs
 split at hs<;>try contradiction
 rename_i E hU
 cases hi:P.info? E with
 | none =>rw [hi] at hs; cases hs
 | some inf =>
  rw [hi] at hs
  obtain rfl:=Option.some.inj hs
  have h1:(0:Int)≤(i:Int)∧(i:Int)<(len:Int):=by omega
  simp only [execOp,hx.eval s,hy.eval s]
  simp [Instr.indexAt,asIntOf,acw hU,sizeOf,acn hi,h1,hlt,ael]
def agk (P:Program) (T:TypeId):Option (Option Nat) :=
 match P.underlying T with
 | some (.struct _) | some (.array ..) =>(P.info? T).map fun i =>some i.size
 | some _ =>some none
 | none =>none
theorem avB {w:World} {k:Option Nat} (h:agk P T=some k):(isAgg T).run P w=.ok k.isSome w:=by
 unfold agk at h
 unfold isAgg
 split at h
 ·rename_i hU; cases hi:P.info? T<;>rw [hi] at h<;>simp at h
  subst h; simp [acw hU]
 ·rename_i hU; cases hi:P.info? T<;>rw [hi] at h<;>simp at h
  subst h; simp [acw hU]
 ·rename_i t h1 h2 hU
  obtain rfl:=Option.some.inj h
  cases t<;>first | (simp [acw hU]; done) | (exfalso; simp_all; done) | skip
 ·cases h
theorem azr {w:World} {k:Nat} (h:agk P T=some (some k)):(sizeOf T).run P w=.ok k w:=by
 unfold agk at h
 split at h
 ·cases hi:P.info? T<;>rw [hi] at h<;>simp at h
  subst h; simp [sizeOf,acn hi]
 ·cases hi:P.info? T<;>rw [hi] at h<;>simp at h
  subst h; simp [sizeOf,acn hi]
 ·cases h
 ·cases h
theorem aaa {α β:Type} {m:Sem α} {f:α→Sem β} {w w':World} {a:α} (h:m.run P w=.ok a w'):(m >>= f).run P w=(f a).run P w':=by
 rw [Sem.run_bind,h]; rfl
theorem anc {w:World} {b o:Nat}:∀ (us:List Value) (i:Nat) (acc:Array Value),(∀ j u,us[j]?=some u→w.cell? ⟨b,o+i+j,none⟩=some u) →
  (loadCellsFrom ⟨b,o,none⟩ i us.length acc).run P w=.ok (acc++us.toArray) w
 | [],i,acc,_ =>by simp [loadCellsFrom]
 | u::us,i,acc,h =>by
  have h0:=h 0 u rfl
  rw [Nat.add_zero] at h0
  have ih:=anc (w:=w) (b:=b) (o:=o) us (i+1) (acc.push u) (fun j v hv =>by
   have:=h (j+1) v (by simpa using hv)
   rw [← this]; congr 2; omega)
  simp only [List.length_cons,loadCellsFrom,ael]
  rw [aaa (a:=u) (w':=w) (by simp [load,Sem.run,h0])]
  rw [ih]; simp
theorem ald {w:World} {b o:Nat} {k:Option Nat} {us:List Value} (ht:agk P T=some k) (hk:us.length=k.getD 1) (h:∀ j u,us[j]?=some u→w.cell? ⟨b,o+j,none⟩=some u)
  (hv:v=match k with | some _ =>.agg us.toArray | none =>us.headD undef):(Instr.loadAt T (.pointer (some ⟨b,o,none⟩))).run P w=.ok v w:=by
 subst hv
 simp only [Instr.loadAt,Instr.sureAddr]
 rw [aaa (a:=(⟨b,o,none⟩:Addr)) (w':=w) rfl]
 unfold loadVar
 rw [aaa (avB ht)]
 cases k with
 | none =>
  obtain ⟨u,rfl⟩:∃ u,us=[u]:=by
   cases us with
   | nil =>simp at hk
   | cons u us =>cases us with
    | nil =>exact ⟨u,rfl⟩
    | cons _ _ =>simp at hk
  have:=h 0 u rfl
  rw [Nat.add_zero] at this
  simp [load,Sem.run,this]
 | some k =>
  simp only [Option.isSome_some,if_true]
  rw [aaa (azr ht)]
  have h1:=anc (P:=P) (w:=w) (b:=b) (o:=o) us 0 #[] (fun j u hu =>by rw [Nat.add_zero]; exact h j u hu)
  simp only [Option.getD_some] at hk
  rw [hk] at h1
  rw [aaa (by simpa [loadCells] using h1)]
  rfl
end
section
variable {P:Program} {n B:Nat} {W:World} {R R':adM} {L L' M:List aad} {v u:Value} {x y z:Operand}
 {d:Option Tmp} {ty:TypeId} {ps:String} {af:Array Edge} {g:Option (Nat×Bool)} {T T':TypeId}
theorem asV {w:World} {b o:Nat} {vs:List Value} (s:Sat B w L) (h:pts b o vs∈L) {i:Nat} {v:Value} (hi:vs[i]?=some v):B≤b∧w.cell? ⟨b,o+i,none⟩=some v∧w.frozen? ⟨b,o+i,none⟩=false:=by
 obtain ⟨L',hp⟩:=Pick.of_mem h
 exact (s.perm hp.perm).cell hi
def aei:Value→Bool
 | .agg _ =>false
 | .tuple _ =>false
 | _ =>true
theorem axx {w:World} {b o:Nat} (h:Below B W w) (hb:B≤b) (u:Value):Below B W (w.setCell ⟨b,o,none⟩ u):=h.setCell hb u
theorem aAk {w:World} {p:Addr} {v u:Value} (hv:aei v=true) (hc:w.cell? p=some u) (hf:w.frozen? p=false):(store p v).run P w=.ok () (w.setCell p v):=by
 cases v<;>simp [aei] at hv<;>simp [store,Sem.run,hc,hf]
theorem ago {b o o':Nat}:∀ (us:List Value) (j i:Nat) (vs:List Value) (w:World) (L:List aad),o'+j=o+i→us.all aei=true→i+us.length≤vs.length→Sat B w (pts b o vs::L)→Below B W w→B≤w.heap.size →
  ∃ w',(storeCells ⟨b,o',none⟩ us j).run P w=.ok () w'∧Cls B W (pts b o (vs.take i++us++vs.drop (i+us.length))::L) w'
 | [],j,i,vs,w,L,_,_,_,s,hb,hl =>⟨w,rfl,hb,hl,by simpa using s⟩
 | u::us,j,i,vs,w,L,ho,ha,hi,s,hb,hl =>by
  simp only [List.all_cons,Bool.and_eq_true] at ha
  simp only [List.length_cons] at hi
  have hlt:i<vs.length:=by omega
  obtain ⟨h1,h2,h3⟩:=s.cell (List.getElem?_eq_getElem hlt)
  obtain ⟨w',hr,hc⟩:=ago (o':=o') us (j+1) (i+1) (vs.set i u) _ L (by omega) ha.2 (by rw [List.length_set]; omega) (s.store hlt u) (axx hb h1 u) (by simpa using hl)
  refine ⟨w',?_,?_⟩
  ·unfold storeCells
   simp only [ael,ho]
   rw [aaa (aAk ha.1 h2 h3)]
   exact hr
  ·have e:vs.take i++u::us++vs.drop (i+(u::us).length)=(vs.set i u).take (i+1)++us++(vs.set i u).drop (i+1+us.length):=by
    have e1:(vs.set i u).take (i+1)=vs.take i++[u]:=by
     rw [List.take_succ_eq_append_getElem (by simpa using hlt),List.take_set_of_le (Nat.le_refl _)]
     simp
    have e2:(vs.set i u).drop (i+1+us.length)=vs.drop (i+(u::us).length):=by
     rw [List.drop_set_of_lt (by omega)]; congr 1; simp; omega
    rw [e1,e2]; simp
   rw [e]; exact hc
theorem sizeOf_run' {w:World} {k:Nat} (hT:P.cellsOf T=k) (hk:0<k):(sizeOf T).run P w=.ok k w:=by
 unfold Program.cellsOf at hT
 cases hin:P.info? T with
 | none =>rw [hin] at hT; simp at hT; omega
 | some inf =>
  rw [hin] at hT; simp at hT; subst hT
  unfold sizeOf
  rw [aaa (acn hin)]; rfl
theorem aoR {b o o' i k:Nat} {vs us:List Value} {w:World} {L:List aad} (s:Sat B w (pts b o vs::L)) (hb:Below B W w) (hl:B≤w.heap.size) (ho:o+i=o')
  (hT:P.cellsOf T=k) (hk:us.length=k) (hk0:0<k) (hv:v.cells.toList=us) (ha:us.all aei=true) (hi:i+k≤vs.length) :
  ∃ w',(storeVar T ⟨b,o',none⟩ v).run P w=.ok () w'∧Cls B W (pts b o (vs.take i++us++vs.drop (i+k))::L) w':=by
 obtain ⟨w',hr,hc⟩:=ago (P:=P) (W:=W) (o':=o') us 0 i vs w L (by omega) ha (by omega) s hb hl
 subst hk
 refine ⟨w',?_,hc⟩
 unfold storeVar
 rw [aaa (sizeOf_run' hT hk0)]
 have:¬ v.cells.size≠us.length:=by rw [← hv]; simp
 simp only [this,if_false]
 rw [hv]
 exact hr
theorem aft {w:World} (h:Below B W w) (hl:B≤w.heap.size) (o:Obj):Below B W (w.alloc o):=h.alloc hl o
theorem asg {w:World} (T:TypeId) (v:Value):(newVar T v).run P w=.ok ⟨w.heap.size,0,none⟩ (w.alloc (.cells v.cells T)):=by
 unfold newVar newRow newObj
 simp [Sem.run,World.alloc_eq]
def az1 (P:Program) (T:TypeId):Option Value:=(P.info? T).bind (·.zero)
theorem asI {w:World} (h:az1 P T=some v):(zeroValue T).run P w=.ok v w:=by
 unfold az1 at h
 cases hi:P.info? T with
 | none =>rw [hi] at h; cases h
 | some i =>
  rw [hi] at h
  unfold zeroValue
  rw [aaa (acn hi)]
  simp only [Option.bind_some] at h
  rw [h]; rfl
def azO (P:Program) (f:FuncId):Bool:=match P.funcs[f]? with
 | some fn =>fn.body.isSome && !(fn.name == "runtime.NumGoroutine")
 | none =>false
theorem aza {w:World} {f:FuncId} (h:azO P f=true) (args:Array Value):(callFunc f args).run P w=.ok (.enter f args) w:=by
 unfold azO at h
 cases hf:P.funcs[f]? with
 | none =>rw [hf] at h; cases h
 | some fn =>
  rw [hf] at h
  simp only [Bool.and_eq_true,Bool.not_eq_true'] at h
  unfold callFunc
  rw [aaa (a:=P) (w':=w) (by simp [program,Sem.run])]
  simp only [hf,h.2]
  have:fn.body.isNone=false:=by cases hb:fn.body<;>simp_all
  simp [this]
theorem aHu {a:Act} {w:World} {f:FuncId} {xs:Array Operand} {ts:Array TypeId} {vs:List Value} {fst cap:Array Value} (hf:a.eval x=.func (.func f) fst cap) (hc:azO P f=true) (hxs:xs.toList.map a.eval=vs) :
  (execOp a.eval ⟨d,.call ⟨.value x,xs,ts⟩,ty,ps,af,g⟩).run P w=.ok (.enter f (fst++vs.toArray++cap)) w:=by
 have e:xs.map a.eval=vs.toArray:=by apply Array.ext'; rw [Array.toList_map,hxs]
 simp only [execOp,resolve,e,hf,Deferred.ofValue]
 rw [aaa (a:=({ target:=.fn (.func f) cap,args:=fst++vs.toArray }:Deferred)) (w':=w) rfl]
 simp only [invoke]
 rw [aza hc]
inductive ResR (P:Program) (R:adM) (L:List aad):List ResultVar→List Value→Prop where
 | nil:ResR P R L [] []
 | cons {t:Nat} {v:Value} {rs:List ResultVar} {vs:List Value} (h:(t,v)∈R) (k:ResR P R L rs vs):ResR P R L (.tmp t::rs) (v::vs)
 | cell {t b o:Nat} {T:TypeId} {us:List Value} {v:Value} {rs:List ResultVar} {vs:List Value} (h:(t,Value.pointer (some ⟨b,o,none⟩))∈R) (hL:pts b o us∈L) (hT:agk P T=some none) (hi:us[0]?=some v) (k:ResR P R L rs vs):ResR P R L (.cell t T::rs) (v::vs)
 | cellA {t b o m:Nat} {T:TypeId} {us ws:List Value} {rs:List ResultVar} {vs:List Value} (h:(t,Value.pointer (some ⟨b,o,none⟩))∈R) (hL:pts b o us∈L) (hT:agk P T=some (some m)) (hi:us.take m=ws) (hm:ws.length=m) (k:ResR P R L rs vs):ResR P R L (.cell t T::rs) (.agg ws.toArray::vs)
def axM:List Value→Value
 | [v] =>v
 | vs =>.tuple vs.toArray
theorem ajt {w:World} {b o:Nat} {k:Option Nat} {us:List Value} (ht:agk P T=some k) (hk:us.length=k.getD 1) (h:∀ j u,us[j]?=some u→w.cell? ⟨b,o+j,none⟩=some u)
  (hv:v=match k with | some _ =>.agg us.toArray | none =>us.headD undef):(loadVar T ⟨b,o,none⟩).run P w=.ok v w:=ald ht hk h hv
theorem ResR.run {rs:List ResultVar} {vs:List Value} (h:ResR P R L rs vs) {a:Act} {w:World} (s:Sta n B W R L a w) {fn:Func} (hfn:fn.results.toList=rs):(results fn a.tmps).run P w=.ok (axM vs) w:=by
 have key:∀ (rs:List ResultVar) (vs:List Value),ResR P R L rs vs→(rs.mapM (m:=Sem) fun | .tmp t =>pure (a.tmps.getD t undef) | .cell ad t =>do loadVar t (← asAddr (a.tmps.getD ad undef))).run P w=.ok vs w:=by
  intro rs vs h
  induction h with
  | nil =>rfl
  | cons h k ih =>
   rw [List.mapM_cons]
   have:=s.regs.has _ h
   simp only at this
   rename_i t v rs vs
   rw [aaa (a:=v) (w':=w) (by simp [Array.getD_eq_getD_getElem?,this,pure]),aaa ih]
   rfl
  | cell h hL hT hi k ih =>
   rw [List.mapM_cons]
   have:=s.regs.has _ h
   simp only at this
   rename_i t b o T us v rs vs
   have hc:=(asV s.sat hL hi).2.1
   rw [aaa (a:=v) (w':=w) (by
    simp only [Array.getD_eq_getD_getElem?,this,Option.getD_some]
    rw [aaa (a:=(⟨b,o,none⟩:Addr)) (w':=w) rfl]
    exact ajt (us:=[v]) hT rfl (fun j u hj =>by
     cases j with
     | zero =>simp at hj; subst hj; exact hc
     | succ j =>simp at hj) rfl),aaa ih]
   rfl
  | cellA h hL hT hi hm k ih =>
   rw [List.mapM_cons]
   have:=s.regs.has _ h
   simp only at this
   rename_i t b o m T us ws rs vs
   rw [aaa (a:=Value.agg ws.toArray) (w':=w) (by
    simp only [Array.getD_eq_getD_getElem?,this,Option.getD_some]
    rw [aaa (a:=(⟨b,o,none⟩:Addr)) (w':=w) rfl]
    exact ajt (us:=ws) hT hm (fun j u hj =>by
     refine (asV s.sat hL (i:=j) ?_).2.1
     rw [← hi,List.getElem?_take] at hj
     split at hj
     ·exact hj
     ·cases hj) rfl),aaa ih]
   rfl
 unfold results
 have e:fn.results=rs.toArray:=by rw [← hfn]
 rw [e]
 simp only [List.mapM_toArray]
 rw [aaa (a:=vs.toArray) (w':=w) (by
  rw [map_eq_pure_bind]
  exact aaa (key rs vs h))]
 match vs with
 | [] =>rfl
 | [v] =>rfl
 | _::_::_ =>rfl
end
end
section
open Go.RowKit
structure Ins where
 op:Int
 a:Int
 b:Int
structure Sub where
 prog:Int
 level:Int
 deadline:Int
structure Cfg where
 workers:Int
 levels:Int
 classes:Int
 tasks:Int
 deque:Int
 heap:Int
 batch:Int
 age:Int
 patience:Int
 progs:List (List Ins)
 subs:List Sub
structure Ev where
 kind:Int
 worker:Int
 task:Int
 other:Int
 level:Int
 deriving DecidableEq
structure St where
 at_:Int
 ev:Ev
 deriving DecidableEq
def Ins.enc (x:Ins):List Value:=[.int .i64 x.op,.int .i64 x.a,.int .i64 x.b]
def Sub.enc (x:Sub):List Value:=[.int .i64 x.prog,.int .i64 x.level,.int .i64 x.deadline]
def Ev.enc (x:Ev):List Value:=[.int .i64 x.kind,.int .i64 x.worker,.int .i64 x.task,.int .i64 x.other,.int .i64 x.level]
def St.enc (x:St):List Value:=[.int .i64 x.at_,.int .i64 x.ev.kind,.int .i64 x.ev.worker,.int .i64 x.ev.task,.int .i64 x.ev.other,.int .i64 x.ev.level]
def arn (x:Int):List Value:=[.int .i64 x]
def Sl {α:Type} (enc:α→List Value) (sz:Nat) (w:World) (B:Nat) (A:Option Addr) (xs:List α):Prop :=
 xs.length≤9223372036854775807∧(xs≠[]→∃ b o,A=some ⟨b,o,none⟩∧b<B ∧
  ∀ (i:Nat) x,xs[i]?=some x→∀ (j:Nat) u,(enc x)[j]?=some u→w.cell? ⟨b,o+i*sz+j,none⟩=some u)
section
variable {α:Type} {enc:α→List Value} {sz:Nat} {w w':World} {B B':Nat} {A:Option Addr} {xs:List α}
theorem Sl.len (h:Sl enc sz w B A xs):xs.length≤9223372036854775807:=h.1
theorem Sl.at_ (h:Sl enc sz w B A xs) {i:Nat} (hi:i<xs.length):∃ b o,A=some ⟨b,o,none⟩∧b<B ∧
  ∀ (k:Nat) (hk:k<xs.length) (j:Nat) u,(enc xs[k])[j]?=some u→w.cell? ⟨b,o+k*sz+j,none⟩=some u:=by
 obtain ⟨b,o,e,hb,hc⟩:=h.2 (fun e =>by subst e; simp at hi)
 exact ⟨b,o,e,hb,fun k hk j u hu =>hc k xs[k] (List.getElem?_eq_getElem hk) j u hu⟩
theorem Sl.below (h:Sl enc sz w B A xs) (hb:Below B w w'):Sl enc sz w' B A xs :=
 ⟨h.1,fun hn =>by
  obtain ⟨b,o,e,hlt,hc⟩:=h.2 hn
  exact ⟨b,o,e,hlt,fun i x hx j u hu =>(hb.cell (p:=⟨b,o+i*sz+j,none⟩) hlt).trans (hc i x hx j u hu)⟩⟩
theorem Sl.more (h:Sl enc sz w B A xs) (hB:B≤B'):Sl enc sz w B' A xs :=
 ⟨h.1,fun hn =>by
  obtain ⟨b,o,e,hlt,hc⟩:=h.2 hn
  exact ⟨b,o,e,by omega,hc⟩⟩
theorem Sl.nil:Sl enc sz w B A ([]:List α):=⟨by simp,fun h =>absurd rfl h⟩
end
def aus (w:World) (B:Nat) (A:Option Addr) (ps:List (List Ins)):Prop :=
 ps.length≤9223372036854775807∧(ps≠[]→∃ b o,A=some ⟨b,o,none⟩∧b<B ∧
  ∀ (i:Nat) p,ps[i]?=some p→∃ (Ai:Option Addr) (ci:Nat),w.cell? ⟨b,o+i,none⟩=some (.slice Ai p.length ci)∧Sl Ins.enc 3 w B Ai p)
theorem aus.below {w w':World} {B:Nat} {A:Option Addr} {ps:List (List Ins)} (h:aus w B A ps) (hb:Below B w w'):aus w' B A ps :=
 ⟨h.1,fun hn =>by
  obtain ⟨b,o,e,hlt,hc⟩:=h.2 hn
  refine ⟨b,o,e,hlt,fun i p hp =>?_⟩
  obtain ⟨Ai,ci,h1,h2⟩:=hc i p hp
  exact ⟨Ai,ci,(hb.cell (p:=⟨b,o+i,none⟩) hlt).trans h1,h2.below hb⟩⟩
theorem aus.more {w:World} {B B':Nat} {A:Option Addr} {ps:List (List Ins)} (h:aus w B A ps) (hB:B≤B'):aus w B' A ps :=
 ⟨h.1,fun hn =>by
  obtain ⟨b,o,e,hlt,hc⟩:=h.2 hn
  refine ⟨b,o,e,by omega,fun i p hp =>?_⟩
  obtain ⟨Ai,ci,h1,h2⟩:=hc i p hp
  exact ⟨Ai,ci,h1,h2.more hB⟩⟩
theorem aus.at_ {w:World} {B:Nat} {A:Option Addr} {ps:List (List Ins)} (h:aus w B A ps) {i:Nat} (hi:i<ps.length) :
  ∃ b o,A=some ⟨b,o,none⟩∧b<B∧∃ (Ai:Option Addr) (ci:Nat),w.cell? ⟨b,o+i,none⟩=some (.slice Ai ps[i].length ci)∧Sl Ins.enc 3 w B Ai ps[i]:=by
 obtain ⟨b,o,e,hb,hc⟩:=h.2 (fun e =>by subst e; simp at hi)
 exact ⟨b,o,e,hb,hc i ps[i] (List.getElem?_eq_getElem hi)⟩
structure CfgAt where
 pa:Option Addr
 pc:Nat
 sa:Option Addr
 sc:Nat
@[reducible] def awe (c : Cfg) (l : CfgAt) : Value :=
 .agg #[.int .i64 c.workers,.int .i64 c.levels,.int .i64 c.classes,.int .i64 c.tasks,.int .i64 c.deque,.int .i64 c.heap,.int .i64 c.batch,.int .i64 c.age,.int .i64 c.patience,.slice l.pa c.progs.length l.pc,.slice l.sa c.subs.length l.sc]
def anL (w:World) (B:Nat) (c:Cfg) (l:CfgAt):Prop:=aus w B l.pa c.progs∧Sl Sub.enc 3 w B l.sa c.subs
theorem anL.below {w w':World} {B:Nat} {c:Cfg} {l:CfgAt} (h:anL w B c l) (hb:Below B w w'):anL w' B c l:=⟨h.1.below hb,h.2.below hb⟩
theorem anL.more {w:World} {B B':Nat} {c:Cfg} {l:CfgAt} (h:anL w B c l) (hB:B≤B'):anL w B' c l:=⟨h.1.more hB,h.2.more hB⟩
theorem anL.up {w w':World} {c:Cfg} {l:CfgAt} (h:anL w w.heap.size c l) (hb:Below w.heap.size w w'):anL w' w'.heap.size c l:=(h.below hb).more hb.size
theorem Sl.up {α:Type} {enc:α→List Value} {sz:Nat} {w w':World} {A:Option Addr} {xs:List α} (h:Sl enc sz w w.heap.size A xs) (hb:Below w.heap.size w w'):Sl enc sz w' w'.heap.size A xs:=(h.below hb).more hb.size
theorem aoC {w w1:World} {o:Obj} (h:Below (w.alloc o).heap.size (w.alloc o) w1):Below w.heap.size w w1 :=
 ((Below.refl _ _).alloc (Nat.le_refl _) _).trans (h.mono (by simp))
theorem ai9 {w w1 w2:World} (h:Below w.heap.size w w1) (h2:Below w1.heap.size w1 w2):Below w.heap.size w w2:=h.trans (h2.mono h.size)
theorem aue {W w1:World} {B:Nat} (hb:Below B W w1):(∀ b o,b<B→w1.cell? ⟨b,o,none⟩=W.cell? ⟨b,o,none⟩)∧(∀ b o,b<B→w1.frozen? ⟨b,o,none⟩=W.frozen? ⟨b,o,none⟩) :=
 ⟨fun b o h =>hb.cell (p:=⟨b,o,none⟩) h,fun b o h =>hb.frozen (p:=⟨b,o,none⟩) h⟩
theorem agT {k:IntKind} {a b:Int} (h:a=b):Ending.returned (.int k a)=.returned (.int k b):=by rw [h]
theorem aDM {a b:Bool} (h:a=b):Ending.returned (.bool a)=.returned (.bool b):=by rw [h]
def Blk (w:World) (g:Nat) (t:TypeId) (cs:Array Value):Prop:=w.heap[g]?=some (.cells cs t (0,0))
section
variable {w w':World} {g:Nat} {t:TypeId} {cs:Array Value}
theorem Blk.lt (h:Blk w g t cs):g<w.heap.size:=by
 rcases Nat.lt_or_ge g w.heap.size with hlt | hge
 ·exact hlt
 ·unfold Blk at h; rw [Array.getElem?_eq_none hge] at h; cases h
theorem Blk.cell (h:Blk w g t cs) (i:Nat):w.cell? ⟨g,i,none⟩=cs[i]?:=cell_of_row w g i cs t (0,0) h
theorem Blk.frozen (h:Blk w g t cs) (i:Nat):w.frozen? ⟨g,i,none⟩=false:=by
 unfold Blk at h
 simp [World.frozen?,h]
theorem Blk.new (w:World) (t:TypeId) (cs:Array Value):Blk (w.alloc (.cells cs t)) w.heap.size t cs:=heap_alloc_new w _
theorem Blk.alloc (h:Blk w g t cs) (o:Obj):Blk (w.alloc o) g t cs:=(Below.heap_alloc w o g h.lt).trans h
theorem Blk.below {B:Nat} (h:Blk w g t cs) (hb:Below B w w') (hg:g<B):Blk w' g t cs:=(hb.block g hg).trans h
theorem Blk.grown {row:Option Nat} (h:Blk w g t cs) (hb:w.grownBy w' row) (hg:some g≠row):Blk w' g t cs:=(hb.block g h.lt hg).trans h
end
structure Above (B:Nat) (W:World) where
 w:World
 h:Below B W w
instance {B : Nat} {W : World} : Nonempty (Above B W) := ⟨⟨W,Below.refl B W⟩⟩
theorem Above.cells {B:Nat} {W:World} (x:Above B W) (b o:Nat) (h:b<B):x.w.cell? ⟨b,o,none⟩=W.cell? ⟨b,o,none⟩:=x.h.cell (p:=⟨b,o,none⟩) h
def inB (a lo hi:Int):Bool:=decide (lo≤a) && decide (a≤hi)
def arR (levels np:Int) (x:Ins):Bool :=
 if x.op=0 then inB x.a 1 64 && (x.b == 0) else if x.op=1 then inB x.a 0 (np-1) && inB x.b 0 (levels-1) else if x.op=2 then inB x.a 0 31 && (x.b == 0) else false
def alJ (c:Cfg):Bool :=
 inB c.workers 1 16 && inB c.levels 1 64 && inB c.classes 1 (if c.levels<8 then c.levels else 8) && inB c.tasks 1 256 && inB c.deque 1 64 && inB c.heap 1 64 && inB c.batch 1 c.deque && inB c.age 0 65536 && inB c.patience 1 65536
def abT (levels np:Int):List (List Ins)→Int
 | [] =>0
 | p::ps =>if 32<p.length then 2 else if p.all (arR levels np) then abT levels np ps else 1
def aqm (levels np:Int) (s:Sub):Int:=if !inB s.prog 0 (np-1) then 3 else if !inB s.level 0 (levels-1) || !inB s.deadline 0 16777215 then 1 else 0
def aeo (levels np:Int):List Sub→Int
 | [] =>0
 | s::ss =>if aqm levels np s=0 then aeo levels np ss else aqm levels np s
def aeu (c:Cfg):Int:=if !inB c.progs.length 1 32 then 2 else abT c.levels c.progs.length c.progs
def air (c:Cfg):Int:=if 64<c.subs.length then 2 else aeo c.levels c.progs.length c.subs
def agQ (c:Cfg):Int:=if !alJ c then 1 else if aeu c≠0 then aeu c else air c
theorem ajp {c:Cfg} (h:alJ c=true):1≤c.workers∧c.workers≤16∧1≤c.levels∧c.levels≤64∧1≤c.classes∧c.classes≤8∧1≤c.tasks∧c.tasks≤256∧1≤c.deque∧c.deque≤64∧1≤c.heap∧c.heap≤64∧1≤c.batch∧c.batch≤c.deque∧0≤c.age∧c.age≤65536∧1≤c.patience∧c.patience≤65536:=by
 simp only [alJ,inB,Bool.and_eq_true,decide_eq_true_eq] at h
 have:(if c.levels<8 then c.levels else 8)≤8:=by split<;>omega
 omega
end
section
open Go Go.RowKit
section
variable {P:Program} {ops:Array Oper} {md:Region.Mode} {C:World→Prop}
end
section
variable {r:Option Nat} {P:Program} {Q:Exit→Act→World→Prop} {n B:Nat} {W:World} {R R' R0:adM} {L L' M:List aad} {v u:Value} {x y z:Operand} {o:Oper} {ops:Array Oper}
 {d:Option Tmp} {ty:TypeId} {ps:String} {af:Array Edge} {g:Option (Nat×Bool)} {T T':TypeId}
inductive Less:adM→adM→Prop where
 | nil {R:adM}:Less R []
 | cons {R R':adM} {t:Nat} {v u:Value} (h:(t,v)∈R) (e:v=u) (k:Less R R'):Less R ((t,u)::R')
theorem Less.regs {R R':adM} (h:Less R R') {a:Act} (r:Regs n a R):Regs n a R':=by
 induction h with
 | nil =>exact ⟨r.size,r.defers,fun p hp =>by cases hp⟩
 | cons hm e _ ih =>
  have r':=ih
  refine ⟨r.size,r.defers,fun p hp =>?_⟩
  rcases List.mem_cons.1 hp with h1 | h1
  ·subst h1; subst e; exact r.has _ hm
  ·exact r'.has p h1
def Ent (L L':List aad):Prop:=∀ h,abW L h→abW L' h
theorem Ent.sat {w:World} (h:Ent L L') (s:Sat B w L):Sat B w L':=s.imp h
theorem Ent.refl:Ent L L:=fun _ h =>h
theorem Ent.trans {L1 L2 L3:List aad} (h:Ent L1 L2) (k:Ent L2 L3):Ent L1 L3:=fun x s =>k x (h x s)
theorem Ent.perm (p:L.Perm L'):Ent L L':=fun _ =>abM p
theorem Ent.drop {A:aad}:Ent (A::L) L:=fun h s =>by
 obtain ⟨k1,k2,a,e,_,hL⟩:=s
 have:abW ([]++L) h:=aaj.2 ⟨k1,k2,a,e,trivial,hL⟩
 exact this
theorem Ent.cons {A A':aad} (f:∀ h,A h→A' h) (h:Ent L L'):Ent (A::L) (A'::L'):=fun x s =>abp h (aaJ f s)
theorem Ent.picks {N:List aad} (h:Picks L N M):Ent L (N++M):=Ent.perm h.perm
def exS {X:Type} (A:X→aad):aad:=fun h =>∃ x,A x h
theorem aJd {X:Type} {A:X→aad} {w:World} (h:Sat B w (exS A::L)):∃ x,Sat B w (A x::L):=by
 obtain ⟨h,H,k1,k2,a,e,⟨x,hA⟩,hL⟩:=h
 exact ⟨x,h,H,k1,k2,a,e,hA,hL⟩
theorem akd {F:Fence} {k:Nat} {a:Act} {w:World} {c:Code} (I:Nat→Act→World→Prop) (n₀:Nat) (h₀:I n₀ a w)
  (round:∀ m a w,I m a w→c.wpIn F k P (Exit.then (fun a' w' =>∃ m',m'<m∧I m' a' w') Q) a w):(Code.loop c).wpIn F k P Q a w:=by
 refine wpIn_loop (fun a w =>∃ m,I m a w) (fun a w =>leastOf (fun m =>I m a w)) ⟨n₀,h₀⟩ ?_
 intro a w hI
 refine wpIn_mono (round _ a w (leastOf_spec hI).1) ?_
 intro e a' w' hq
 cases e with
 | normal =>
  obtain ⟨m',hlt,hI'⟩:=hq
  exact show (∃ m,I m a' w')∧leastOf (fun m =>I m a' w')<leastOf (fun m =>I m a w) from ⟨⟨m',hI'⟩,Nat.lt_of_le_of_lt ((leastOf_spec ⟨m',hI'⟩).2 m' hI') hlt⟩
 | exit id =>exact hq
 | goto l =>exact hq
 | ret =>exact hq
 | panic ch =>exact hq
 | outgrown =>exact hq
inductive EvalPs (R:adM):List (Nat×Operand)→List (Nat×Value)→Prop where
 | nil:EvalPs R [] []
 | cons {i:Nat} {x:Operand} {v:Value} {xs:List (Nat×Operand)} {vs:List (Nat×Value)} (h:EvalR R x v) (t:EvalPs R xs vs):EvalPs R ((i,x)::xs) ((i,v)::vs)
theorem EvalPs.eval {a:Act} {xs:List (Nat×Operand)} {vs:List (Nat×Value)} (h:EvalPs R xs vs) (r:Regs n a R):(xs.map fun (i,x) =>(i,a.eval x))=vs:=by
 induction h with
 | nil =>rfl
 | cons h _ ih =>rw [List.map_cons,ih]; simp only [h.eval r]
end
section
variable {α:Type _}
end
theorem w64 {a:Int} (h1:-9223372036854775808≤a) (h2:a≤9223372036854775807):IntKind.i64.wrap a=a:=IntWalk.i64_in _ ⟨h1,h2⟩
section
variable {P:Program} {n B:Nat} {W:World} {R:adM} {L M:List aad} {v:Value} {x:Operand} {d:Option Tmp} {ty:TypeId} {ps:String} {af:Array Edge} {g:Option (Nat×Bool)}
end
def ae9 (A:Option Addr) (n cap sz:Nat) (vs:List Value):aad:=fun h =>
 vs.length=n*sz∧n≤cap∧cap≤maxLen∧((A=none∧cap=0)∨∃ b o spare,A=some ⟨b,o,none⟩∧spare.length=(cap-n)*sz∧pts b o (vs++spare) h)
theorem ax2 (sz:Nat) (h:Hp):ae9 none 0 0 sz [] h:=⟨by simp,by omega,by unfold maxLen; omega,.inl ⟨rfl,rfl⟩⟩
theorem arm (sz:Nat) {L:List aad}:Ent L (ae9 none 0 0 sz []::L):=fun h s =>⟨fun _ _ =>none,h,fun _ _ =>.inl rfl,by funext x y; rfl,ax2 sz _,s⟩
theorem aqt {b o n sz:Nat} {vs:List Value} (hl:vs.length=n*sz) (hn:n≤maxLen) (h:Hp) (p:pts b o vs h):ae9 (some ⟨b,o,none⟩) n n sz vs h :=
 ⟨hl,Nat.le_refl _,hn,.inr ⟨b,o,[],rfl,by simp,by simpa using p⟩⟩
section
variable {r:Option Nat} {P:Program} {Q:Exit→Act→World→Prop} {n B:Nat} {W:World} {R R' R0:adM} {L L' M:List aad} {v u:Value} {x y z:Operand} {o:Oper} {ops:Array Oper}
 {d:Option Tmp} {ty:TypeId} {ps:String} {af:Array Edge} {g:Option (Nat×Bool)} {T T':TypeId}
theorem agp {A:Option Addr} {m cap sz:Nat} {vs:List Value} {w:World} (s:Sat B w L) (h:ae9 A m cap sz vs∈L) :
  vs.length=m*sz∧m≤cap∧cap≤maxLen∧((A=none∧cap=0)∨∃ b o,A=some ⟨b,o,none⟩∧∀ i v,vs[i]?=some v→w.cell? ⟨b,o+i,none⟩=some v):=by
 obtain ⟨L',hp⟩:=Pick.of_mem h
 obtain ⟨h,H,k1,k2,a,e,⟨h1,h2,h3,h4⟩,hL⟩:=s.perm hp.perm
 refine ⟨h1,h2,h3,h4.imp id ?_⟩
 rintro ⟨b,o,spare,rfl,_,hp⟩
 refine ⟨b,o,rfl,fun i v hi =>?_⟩
 have hv:(vs++spare)[i]?=some v:=by
  rw [List.getElem?_append_left (by
   rcases Nat.lt_or_ge i vs.length with h1 | h1
   ·exact h1
   ·rw [List.getElem?_eq_none h1] at hi; cases hi)]
  exact hi
 exact (H b (o+i) (.cell v) (by rw [e]; unfold ad3; rw [hp i v hv])).2.1
def aEC (P:Program) (E:TypeId) (z:Value) (sz by_:Nat):Prop:=∃ i,P.info? E=some i∧i.zero=some z∧i.size=sz∧i.bytes=by_
theorem aEt (v:Value) (n:Nat):(madeCells #[v] n).toList=List.replicate n v:=by
 apply List.ext_getElem
 ·simp [madeCells]
 ·intro i h1 h2
  simp [madeCells,Nat.mod_one]
theorem aHn {E:TypeId} {k k':IntKind} {a:Int} {z:Value} {by_:Nat} (hx:EvalR R x (.int k a)) (hy:EvalR R y (.int k' a)) (hT:P.underlying T=some (.slice E)) (hI:aEC P E z 1 by_) (hz:z.cells=#[z]) (h0:0≤a) (h1:a≤1099511627776) (hby:by_≤128) :
  OT P n B W ⟨d,.makeSlice T x y,ty,ps,af,g⟩ R L (X:=Nat) (fun b =>.slice (some ⟨b,0,none⟩) a.toNat a.toNat) (fun b =>pts b 0 (List.replicate a.toNat z)::L):=fun ac w s =>by
 obtain ⟨i,hi,hz1,hz2,hz3⟩:=hI
 have hr:=run_make (P:=P) w T E i z hT hi hz1 k k' a a h0 (Int.le_refl _) (by
  rw [hz3]
  have:(by_:Int)*a≤128*a:=Int.mul_le_mul_of_nonneg_right (by omega) h0
  omega) (by omega)
 have:(execOp ac.eval ⟨d,.makeSlice T x y,ty,ps,af,g⟩).run P w=.ok (.value (.slice (some ⟨w.heap.size,0,none⟩) a.toNat a.toNat)) (w.alloc (.cells (madeCells z.cells (a.toNat*i.size)) E)):=by
  simp only [execOp,hx.eval s.regs,hy.eval s.regs]
  rw [aaa hr]; rfl
 rw [this]
 refine ⟨w.heap.size,rfl,aft s.below s.lo _,by simpa using Nat.le_succ_of_le s.lo,?_⟩
 have e:(madeCells z.cells (a.toNat*i.size)).toList=List.replicate a.toNat z:=by rw [hz2,hz,Nat.mul_one,aEt]
 show Sat B _ (pts w.heap.size 0 (List.replicate a.toNat z)::L)
 rw [← e]
 exact s.sat.fresh s.lo
theorem asB {w:World} {A:Option Addr} {m cap sz k c by_:Nat} {vs us:List Value} {b o:Nat} {E:TypeId} {z:Value} (hT:P.underlying T=some (.slice E)) (hI:aEC P E z sz by_) (hz:z.cells.size=sz) (hsz:0<sz)
  (s:Sat B w (ae9 A m cap sz vs::pts b o us::L)) (hb:Below B W w) (hl:B≤w.heap.size) (hu:us.length=k*sz) (ha:us.all aei=true) (hk:0<k) (hlen:m+k≤maxLen) (hby:(m+k)*by_≤140737488355328) :
  ∃ A' cap' w',(Builtin.append_ #[T,T] ty #[.slice A m cap,.slice (some ⟨b,o,none⟩) k c]).run P w=.ok (.slice A' (m+k) cap') w'∧Cls B W (ae9 A' (m+k) cap' sz (vs++us)::pts b o us::L) w':=by
 obtain ⟨i,hi,hz1,rfl,rfl⟩:=hI
 have hnews:∀ j u,us[j]?=some u→w.cell? ((⟨b,o,none⟩:Addr).add j)=some u:=fun j u hj =>by
  rw [ael]; exact (asV s (List.mem_cons_of_mem _ (List.mem_cons_self ..)) hj).2.1
 obtain ⟨r1,r2,r3,r4⟩:=agp s (List.mem_cons_self ..)
 have hgc:=grownCap_ge w (m+k) cap E
 have hgm:=grownCap_le_maxLen w (m+k) cap E hlen
 have hul:us.length≤us.length:=Nat.le_refl _
 have fresh:∀ xs:List Value,xs.length=(m+k)*i.size→xs=vs++us→∀ (zs:Array Value),zs.size=(grownCap w (m+k) cap E-(m+k))*i.size →
   Cls B W (ae9 (some ⟨w.heap.size,0,none⟩) (m+k) (grownCap w (m+k) cap E) i.size (vs++us)::pts b o us::L) (w.drew.alloc (.cells (xs.toArray++zs) E)):=by
  intro xs hxl hx zs hzl
  have s1:Sat B w.drew (pts b o us::L):=(s.drop).below ((Below.refl _ _).drew)
  have s2:=s1.fresh (cs:=xs.toArray++zs) (T:=E) hl
  refine ⟨aft hb.drew hl _,by simpa using Nat.le_succ_of_le hl,?_⟩
  refine s2.imp fun h =>aaJ fun h hp =>?_
  refine ⟨by rw [← hx]; exact hxl,hgc,hgm,.inr ⟨w.heap.size,0,zs.toList,rfl,by simpa using hzl,?_⟩⟩
  have e:(xs.toArray++zs).toList=vs++us++zs.toList:=by rw [hx]; simp
  rw [e] at hp; exact hp
 have hzc:∀ q,(Builtin.zeroCells z.cells q).size=q*i.size:=fun q =>by rw [size_zeroCells,hz]
 rcases r4 with ⟨rfl,rfl⟩ | ⟨b',o',rfl,hcells⟩
 ·obtain rfl:m=0:=by omega
  have hv:vs=[]:=List.length_eq_zero_iff.1 (by rw [r1]; simp)
  subst hv
  rw [Nat.zero_add] at *
  have hr:=run_append_nil (P:=P) w T ty E i z hT hi hz1 ⟨b,o,none⟩ k c us hu hnews hk (by unfold maxLen at hlen; omega) (by omega)
  exact ⟨_,_,_,hr,fresh us hu (by simp) _ (hzc _)⟩
 ·by_cases hroom:m+k≤cap
  ·obtain ⟨h,H,k1,k2,ap,e,⟨_,_,_,h4⟩,hL⟩:=s
   rcases h4 with ⟨h4,_⟩ | ⟨b2,o2,spare,he,hsp,hp⟩
   ·cases h4
   ·obtain ⟨rfl,rfl⟩:b'=b2∧o'=o2:=by
     have:=Option.some.inj he; exact ⟨congrArg Addr.block this,congrArg Addr.off this⟩
    have s':Sat B w (pts b' o' (vs++spare)::pts b o us::L):=⟨h,H,k1,k2,ap,e,hp,hL⟩
    have hfit:(m+k)*i.size≤cap*i.size:=Nat.mul_le_mul_right _ hroom
    have hsp':spare.length+m*i.size=cap*i.size:=by rw [hsp,← Nat.add_mul,Nat.sub_add_cancel r2]
    rw [Nat.add_mul] at hfit
    obtain ⟨w',hst,hc⟩:=ago (P:=P) (W:=W) (b:=b') (o:=o') (o':=o'+m*i.size) us 0 (m*i.size) (vs++spare) w (pts b o us::L) (by omega) ha (by simp; omega) s' hb hl
    have hf:=run_firstCells_some (P:=P) w i.size k ⟨b,o,none⟩ k c us hu hnews
    refine ⟨some ⟨b',o',none⟩,cap,w',?_,hc.1,hc.2.1,?_⟩
    ·simp [Builtin.append_,acw hT,sizeOf,acn hi,Builtin.lenOf,hroom,hf,ael,hst]
    ·refine hc.2.2.imp fun h =>aaJ fun h hp =>?_
     have e1:List.take (m*i.size) (vs++spare)++us++List.drop (m*i.size+us.length) (vs++spare)=vs++us++spare.drop us.length:=by
      rw [← r1,List.take_left,List.drop_append]
      simp
     rw [e1] at hp
     refine ⟨by simp [r1,hu,Nat.add_mul],hroom,r3,.inr ⟨b',o',spare.drop us.length,rfl,?_,hp⟩⟩
     rw [List.length_drop,hu,Nat.sub_mul,Nat.add_mul]
     omega
  ·have hr:=run_append_grow (P:=P) w T ty E i z hT hi hz1 ⟨b',o',none⟩ m cap vs r1 (fun j v hj =>by rw [ael]; exact hcells j v hj) ⟨b,o,none⟩ k c us hu hnews (by omega) (by unfold maxLen at hlen; omega) (growslice_fits (by omega) hby)
   refine ⟨_,_,_,hr,?_⟩
   have:=fresh (vs++us) (by simp [r1,hu,Nat.add_mul]) rfl _ (hzc (grownCap w (m+k) cap E-(m+k)))
   simpa using this
theorem am1 {A:Option Addr} {len cap l h' sz:Nat} {lo hi:Option Operand} {E:TypeId} (hx:EvalR R x (.slice A len cap)) (hT:P.underlying T=some (.slice E)) (hsz:P.cellsOf E=sz) (hs0:0<sz)
  (hlo:match lo with | some o =>∃ k,EvalR R o (.int k (l:Int)) | none =>l=0) (hhi:match hi with | some o =>∃ k,EvalR R o (.int k (h':Int)) | none =>h'=len) (h1:l≤h') (h2:h'≤cap) {A':Option Addr} (hA:(if cap=l then A else A.map fun a =>a.add (l*sz))=A') :
  OP P n ⟨d,.slice T x lo hi none,ty,ps,af,g⟩ R (.slice A' (h'-l) (cap-l)):=fun a w s =>by
 subst hA
 have e1:(Instr.sliceBounds true len cap (lo.map a.eval) (hi.map a.eval) none).run P w=.ok (l,h',cap) w:=by
  unfold Instr.sliceBounds
  cases hi with
  | none =>
   simp only at hhi; subst hhi
   cases lo with
   | none =>simp only at hlo; subst hlo; simp
   | some o =>
    obtain ⟨k,hk⟩:=hlo
    have:(0:Int)≤(l:Int)∧(l:Int)≤(h':Int):=by omega
    simp [hk.eval s,Instr.sliceBound,asIntOf,this,h1]
  | some q =>
   obtain ⟨k,hk⟩:=hhi
   cases lo with
   | none =>
    simp only at hlo; subst hlo
    simp [hk.eval s,Instr.sliceBound,asIntOf,h2]
   | some o =>
    obtain ⟨k',hk'⟩:=hlo
    simp [hk.eval s,hk'.eval s,Instr.sliceBound,asIntOf,h2,h1]
 simp only [execOp,hx.eval s]
 have e2:(Instr.sliceAt T (.slice A len cap) (lo.map a.eval) (hi.map a.eval) (none.map a.eval)).run P w=.ok (.slice (if cap=l then A else A.map fun a =>a.add (l*sz)) (h'-l) (cap-l)) w:=by
  unfold Instr.sliceAt
  rw [aaa (acw hT)]
  simp only [Instr.slice]
  rw [aaa (acw hT)]
  simp only [Option.map_none]
  rw [aaa e1]
  simp only
  rw [aaa (sizeOf_run' hsz hs0)]
  rfl
 rw [aaa e2]
 rfl
theorem asf {A:Option Addr} {len cap h' sz:Nat} {hi:Operand} {k':IntKind} {E:TypeId} (hx:EvalR R x (.slice A len cap)) (hT:P.underlying T=some (.slice E)) (hsz:P.cellsOf E=sz) (hs0:0<sz)
  (hhi:EvalR R hi (.int k' (h':Int))) (h2:h'≤cap):OP P n ⟨d,.slice T x none (some hi) none,ty,ps,af,g⟩ R (.slice A (h'-0) (cap-0)) :=
 am1 (lo:=none) (hi:=some hi) (l:=0) hx hT hsz hs0 rfl ⟨k',hhi⟩ (Nat.zero_le _) h2 (by
  split
  ·rfl
  ·cases A with
   | none =>rfl
   | some a =>simp [Addr.add])
theorem azA {A:Option Addr} {len cap l sz:Nat} {lo:Operand} {k:IntKind} {E:TypeId} (hx:EvalR R x (.slice A len cap)) (hT:P.underlying T=some (.slice E)) (hsz:P.cellsOf E=sz) (hs0:0<sz)
  (hlo:EvalR R lo (.int k (l:Int))) (h1:l≤len) (h2:len≤cap) {A':Option Addr} (hA:(if cap=l then A else A.map fun a =>a.add (l*sz))=A') :
  OP P n ⟨d,.slice T x (some lo) none none,ty,ps,af,g⟩ R (.slice A' (len-l) (cap-l)):=am1 (lo:=some lo) (hi:=none) hx hT hsz hs0 ⟨k,hlo⟩ rfl h1 h2 hA
end
section
variable {r:Option Nat} {P:Program} {Q:Exit→Act→World→Prop} {n B:Nat} {W:World} {R R' R0:adM} {L L' M:List aad} {v u:Value} {x y z:Operand} {o:Oper} {ops:Array Oper}
 {d:Option Tmp} {ty:TypeId} {ps:String} {af:Array Edge} {g:Option (Nat×Bool)} {T T':TypeId}
theorem azR {w:World} {A:Option Addr} {m cap sz k c by_:Nat} {vs us:List Value} {b o:Nat} {E:TypeId} {z:Value} (hT:P.underlying T=some (.slice E)) (hI:aEC P E z sz by_) (hz:z.cells.size=sz) (hsz:0<sz)
  (hnews:∀ j u,us[j]?=some u→w.cell? (⟨b,o+j,none⟩:Addr)=some u)
  (s:Sat B w (ae9 A m cap sz vs::L)) (hb:Below B W w) (hl:B≤w.heap.size) (hu:us.length=k*sz) (ha:us.all aei=true) (hk:0<k) (hlen:m+k≤maxLen) (hby:(m+k)*by_≤140737488355328) :
  ∃ A' cap' w',(Builtin.append_ #[T,T] ty #[.slice A m cap,.slice (some ⟨b,o,none⟩) k c]).run P w=.ok (.slice A' (m+k) cap') w'∧Cls B W (ae9 A' (m+k) cap' sz (vs++us)::L) w':=by
 obtain ⟨i,hi,hz1,rfl,rfl⟩:=hI
 have hnews':∀ j u,us[j]?=some u→w.cell? ((⟨b,o,none⟩:Addr).add j)=some u:=fun j u hj =>by rw [ael]; exact hnews j u hj
 obtain ⟨r1,r2,r3,r4⟩:=agp s (List.mem_cons_self ..)
 have hgc:=grownCap_ge w (m+k) cap E
 have hgm:=grownCap_le_maxLen w (m+k) cap E hlen
 have fresh:∀ xs:List Value,xs.length=(m+k)*i.size→xs=vs++us→∀ (zs:Array Value),zs.size=(grownCap w (m+k) cap E-(m+k))*i.size →
   Cls B W (ae9 (some ⟨w.heap.size,0,none⟩) (m+k) (grownCap w (m+k) cap E) i.size (vs++us)::L) (w.drew.alloc (.cells (xs.toArray++zs) E)):=by
  intro xs hxl hx zs hzl
  have s1:Sat B w.drew L:=(s.drop).below ((Below.refl _ _).drew)
  have s2:=s1.fresh (cs:=xs.toArray++zs) (T:=E) hl
  refine ⟨aft hb.drew hl _,by simpa using Nat.le_succ_of_le hl,?_⟩
  refine s2.imp fun h =>aaJ fun h hp =>?_
  refine ⟨by rw [← hx]; exact hxl,hgc,hgm,.inr ⟨w.heap.size,0,zs.toList,rfl,by simpa using hzl,?_⟩⟩
  have e:(xs.toArray++zs).toList=vs++us++zs.toList:=by rw [hx]; simp
  rw [e] at hp; exact hp
 have hzc:∀ q,(Builtin.zeroCells z.cells q).size=q*i.size:=fun q =>by rw [size_zeroCells,hz]
 rcases r4 with ⟨rfl,rfl⟩ | ⟨b',o',rfl,hcells⟩
 ·obtain rfl:m=0:=by omega
  have hv:vs=[]:=List.length_eq_zero_iff.1 (by rw [r1]; simp)
  subst hv
  rw [Nat.zero_add] at *
  have hr:=run_append_nil (P:=P) w T ty E i z hT hi hz1 ⟨b,o,none⟩ k c us hu hnews' hk (by unfold maxLen at hlen; omega) (by omega)
  exact ⟨_,_,_,hr,fresh us hu (by simp) _ (hzc _)⟩
 ·by_cases hroom:m+k≤cap
  ·obtain ⟨h,H,k1,k2,ap,e,⟨_,_,_,h4⟩,hL⟩:=s
   rcases h4 with ⟨h4,_⟩ | ⟨b2,o2,spare,he,hsp,hp⟩
   ·cases h4
   ·obtain ⟨rfl,rfl⟩:b'=b2∧o'=o2:=by
     have:=Option.some.inj he; exact ⟨congrArg Addr.block this,congrArg Addr.off this⟩
    have s':Sat B w (pts b' o' (vs++spare)::L):=⟨h,H,k1,k2,ap,e,hp,hL⟩
    have hfit:(m+k)*i.size≤cap*i.size:=Nat.mul_le_mul_right _ hroom
    have hsp':spare.length+m*i.size=cap*i.size:=by rw [hsp,← Nat.add_mul,Nat.sub_add_cancel r2]
    rw [Nat.add_mul] at hfit
    obtain ⟨w',hst,hc⟩:=ago (P:=P) (W:=W) (b:=b') (o:=o') (o':=o'+m*i.size) us 0 (m*i.size) (vs++spare) w L (by omega) ha (by simp; omega) s' hb hl
    have hf:=run_firstCells_some (P:=P) w i.size k ⟨b,o,none⟩ k c us hu hnews'
    refine ⟨some ⟨b',o',none⟩,cap,w',?_,hc.1,hc.2.1,?_⟩
    ·simp [Builtin.append_,acw hT,sizeOf,acn hi,Builtin.lenOf,hroom,hf,ael,hst]
    ·refine hc.2.2.imp fun h =>aaJ fun h hp =>?_
     have e1:List.take (m*i.size) (vs++spare)++us++List.drop (m*i.size+us.length) (vs++spare)=vs++us++spare.drop us.length:=by
      rw [← r1,List.take_left,List.drop_append]
      simp
     rw [e1] at hp
     refine ⟨by simp [r1,hu,Nat.add_mul],hroom,r3,.inr ⟨b',o',spare.drop us.length,rfl,?_,hp⟩⟩
     rw [List.length_drop,hu,Nat.sub_mul,Nat.add_mul]
     omega
  ·have hr:=run_append_grow (P:=P) w T ty E i z hT hi hz1 ⟨b',o',none⟩ m cap vs r1 (fun j v hj =>by rw [ael]; exact hcells j v hj) ⟨b,o,none⟩ k c us hu hnews' (by omega) (by unfold maxLen at hlen; omega) (growslice_fits (by omega) hby)
   refine ⟨_,_,_,hr,?_⟩
   have:=fresh (vs++us) (by simp [r1,hu,Nat.add_mul]) rfl _ (hzc (grownCap w (m+k) cap E-(m+k)))
   simpa using this
end
def NP (Q:Exit→Act→World→Prop):Exit→Act→World→Prop
 | .panic _,_,_ =>False
 | e,a,w =>Q e a w
def ayy (o:Oper):Bool:=match o.op with
 | .call c =>match c.callee with
  | .builtin _ =>true
  | _ =>false
 | _ =>true
theorem ahu {P:Program} {o:Oper} (h:ayy o=true) (w:World) (ρ:Operand→Value):o.about P w ρ=none:=by
 unfold ayy at h
 unfold Oper.about
 split at h
 ·rename_i c hc
  rw [hc]
  simp only
  split at h
  ·rename_i b hb
   unfold resolve
   rw [hb]
   rfl
  ·cases h
 ·rename_i h1
  cases ho:o.op<;>simp only
  exact absurd ho (h1 _)
section
variable {P:Program} {ops:Array Oper} {C:World→Prop}
def auv (ops:Array Oper) (listed:Array Bool):Prop:=∀ j oj,ops[j]?=some oj→listed.getD j false=true→∀ e∈oj.after,Region.binds .any e=true→listed.getD e.on false=true
structure GInv (ops:Array Oper) (H:List Nat) (l0 listed:Array Bool):Prop where
 size:listed.size=ops.size
 closed:auv ops listed
 out:∀ j,j ∉ H→listed.getD j false=l0.getD j false
theorem auv.set {listed:Array Bool} {i:Nat} (h:auv ops listed) (hr:i∈Region.ready .any ops listed):auv ops (listed.setIfInBounds i true):=fun j oj hj hl e he hb =>by
 obtain ⟨_,o,hoi,hall⟩:=mem_ready.1 hr
 by_cases hij:i=j
 ·subst hij
  have:oj=o:=Option.some.inj (hj.symm.trans hoi)
  subst this
  exact getD_set_true (hall e he hb)
 ·rw [getD_set_ne false hij] at hl
  exact getD_set_true (h j oj hj hl e he hb)
theorem GInv.set {H:List Nat} {l0 listed:Array Bool} {i:Nat} (h:GInv ops H l0 listed) (hi:i∈H) (hr:i∈Region.ready .any ops listed):GInv ops H l0 (listed.setIfInBounds i true) :=
 ⟨by simp [h.size],h.closed.set hr,fun j hj =>by rw [getD_set_ne false (fun (e:i=j) =>hj (by rw [← e]; exact hi))]; exact h.out j hj⟩
def hq (P:Program) (ops:Array Oper) (C:World→Prop) (H:List Nat) (L:Array Bool→Act→Prop):Nat→Array Bool→Act→Prop
 | 0,listed,a =>L listed a
 | f+1,listed,a =>Region.ready .any ops listed≠[]∧∀ i∈Region.ready .any ops listed,i∈H∧qOp P ops C i (hq P ops C H L f (listed.setIfInBounds i true)) a
end
section
variable {P:Program} {ops:Array Oper} {Q:Exit→Act→World→Prop} {n B:Nat} {W:World} {R R':adM} {L L':List aad} {listed l':Array Bool} {k i:Nat} {o:Oper} {v:Value}
def awk (ops:Array Oper) (listed:Array Bool) (i:Nat):Bool:=Region.noSelect ops && Region.free .any ops listed i && (Region.ready .any ops listed).contains i
end
structure Sle where
 a:Option Addr
 n:Nat
 c:Nat
structure Env where
 p:Nat→Nat×Nat
 s:Nat→Sle
 v:Nat→Value
inductive V where
 | i (k:IntKind) (x:Int)
 | l (k:IntKind) (x:Int)
 | p (P:Prop) (d:Decidable P)
 | b (x:Bool)
 | t (x:Bool)
 | c (v:Value)
 | ptr (id o:Nat)
 | sl (id:Nat)
 | vw (id o m c:Nat)
 | vs (id o:Nat) (k:Int) (c:Nat)
 | mc (id:Nat)
 | agg (l:List V)
 | tup (l:List V)
 | fn (f:FuncId) (l:List V)
 | ifc (t:TypeId) (v:V)
mutual
def aay (ρ:Env):V→Value
 | .i k x =>.int k x
 | .l k x =>.int k x
 | .p P d =>.bool (@decide P d)
 | .b x =>.bool x
 | .t x =>.bool x
 | .c v =>v
 | .ptr id o =>.pointer (some ⟨(ρ.p id).1,(ρ.p id).2+o,none⟩)
 | .sl id =>.slice (ρ.s id).a (ρ.s id).n (ρ.s id).c
 | .vw id o m c =>.slice (some ⟨(ρ.p id).1,(ρ.p id).2+o,none⟩) m c
 | .vs id o k c =>.slice (some ⟨(ρ.p id).1,(ρ.p id).2+o,none⟩) k.toNat c
 | .mc id =>ρ.v id
 | .agg l =>.agg (aah ρ l).toArray
 | .tup l =>.tuple (aah ρ l).toArray
 | .fn f l =>.func (.func f) #[] (aah ρ l).toArray
 | .ifc t v =>.iface t (aay ρ v)
termination_by structural v =>v
def aah (ρ:Env):List V→List Value
 | [] =>[]
 | v::l =>aay ρ v::aah ρ l
termination_by structural l =>l
end
def ae5 {α:Type} (n:Nat) (k:Nat→α):α:=match n with
 | 0 =>k 0
 | m+1 =>k (m+1)
theorem adW {α:Type} (n:Nat) (k:Nat→α):ae5 n k=k n:=by cases n<;>rfl
def mx (a b:Nat):Nat:=ae5 a fun a =>ae5 b fun b =>Nat.max a b
theorem aHE (a b:Nat):mx a b=Nat.max a b:=by unfold mx; rw [adW,adW]
theorem aII {a b:Nat}:a≤mx a b:=by rw [aHE]; exact Nat.le_max_left ..
theorem aFP {a b:Nat}:b≤mx a b:=by rw [aHE]; exact Nat.le_max_right ..
theorem arM {a b n:Nat} (h:a≤n∧b≤n):mx a b≤n:=by rw [aHE]; exact Nat.max_le.2 h
mutual
def akf:V→Nat
 | .ptr id _ =>id+1
 | .sl id =>id+1
 | .vw id _ _ _ =>id+1
 | .vs id _ _ _ =>id+1
 | .mc id =>id+1
 | .agg l =>ajh l
 | .tup l =>ajh l
 | .fn _ l =>ajh l
 | .ifc _ v =>akf v
 | _ =>0
termination_by structural v =>v
def ajh:List V→Nat
 | [] =>0
 | v::l =>mx (akf v) (ajh l)
termination_by structural l =>l
end
example (x:Int):ajh [.agg [.ptr 3 0,.i .i64 x]]=4:=rfl
example (x:Int):ajh [.agg [.ptr 3 0,.i .i64 x]]=4:=by kernel_rfl
def aaB (n:Nat) (ρ ρ':Env):Prop:=∀ k,k<n→ρ.p k=ρ'.p k∧ρ.s k=ρ'.s k∧ρ.v k=ρ'.v k
theorem aaB.refl (n:Nat) (ρ:Env):aaB n ρ ρ:=fun _ _ =>⟨rfl,rfl,rfl⟩
theorem aaB.trans {n m:Nat} {ρ ρ' ρ'':Env} (h:aaB n ρ ρ') (h':aaB m ρ' ρ'') (hle:n≤m):aaB n ρ ρ'':=fun k hk =>⟨(h k hk).1.trans (h' k (by omega)).1,(h k hk).2.1.trans (h' k (by omega)).2.1,(h k hk).2.2.trans (h' k (by omega)).2.2⟩
theorem aaB.le {n m:Nat} {ρ ρ':Env} (h:aaB n ρ ρ') (hle:m≤n):aaB m ρ ρ':=fun k hk =>h k (by omega)
mutual
theorem aa5 {ρ ρ':Env} {n:Nat} (h:aaB n ρ ρ'):∀ v:V,akf v≤n→aay ρ v=aay ρ' v
 | .i ..,_ =>by simp only [aay]
 | .l ..,_ =>by simp only [aay]
 | .p ..,_ =>by simp only [aay]
 | .b ..,_ =>by simp only [aay]
 | .t ..,_ =>by simp only [aay]
 | .c ..,_ =>by simp only [aay]
 | .ptr id o,hn =>by simp only [akf] at hn; simp only [aay,(h id (by omega)).1]
 | .sl id,hn =>by simp only [akf] at hn; simp only [aay,(h id (by omega)).2.1]
 | .vw id o m c,hn =>by simp only [akf] at hn; simp only [aay,(h id (by omega)).1]
 | .vs id o k c,hn =>by simp only [akf] at hn; simp only [aay,(h id (by omega)).1]
 | .mc id,hn =>by simp only [akf] at hn; simp only [aay,(h id (by omega)).2.2]
 | .agg l,hn =>by simp only [akf] at hn; simp only [aay,aeI h l hn]
 | .tup l,hn =>by simp only [akf] at hn; simp only [aay,aeI h l hn]
 | .fn f l,hn =>by simp only [akf] at hn; simp only [aay,aeI h l hn]
 | .ifc t v,hn =>by simp only [akf] at hn; simp only [aay,aa5 h v hn]
theorem aeI {ρ ρ':Env} {n:Nat} (h:aaB n ρ ρ'):∀ l:List V,ajh l≤n→aah ρ l=aah ρ' l
 | [],_ =>by simp only [aah]
 | v::l,hn =>by
  simp only [ajh] at hn
  have h1:akf v≤n:=Nat.le_trans aII hn
  have h2:ajh l≤n:=Nat.le_trans aFP hn
  simp only [aah,aa5 h v h1,aeI h l h2]
end
theorem aaS {ρ:Env} (l:List V):aah ρ l=l.map (aay ρ):=by
 induction l with
 | nil =>rfl
 | cons v l ih =>rw [aah,ih]; rfl
theorem arp {ρ:Env} (l m:List V):aah ρ (l++m)=aah ρ l++aah ρ m:=by simp [aaS]
abbrev aa6:=List (Nat×V)
def get {α:Type}:List (Nat×α)→Nat→Option α
 | [],_ =>none
 | (t,v)::R,k =>match Nat.beq t k with
  | true =>some v
  | false =>get R k
def del {α:Type}:List (Nat×α)→Nat→List (Nat×α)
 | [],_ =>[]
 | (t,v)::R,k =>match Nat.beq t k with
  | true =>del R k
  | false =>(t,v)::del R k
theorem aw9 {α:Type} {k:Nat} {v:α}:∀ {R:List (Nat×α)},get R k=some v→(k,v)∈R
 | [],h =>by cases h
 | (t,u)::R,h =>by
  unfold get at h
  split at h
  ·rename_i e
   have e':t=k:=Nat.eq_of_beq_eq_true e
   simp only [Option.some.injEq] at h
   subst e' h
   exact List.mem_cons_self ..
  ·exact List.mem_cons_of_mem _ (aw9 h)
theorem ajE {α:Type} {k:Nat} {p:Nat×α}:∀ {R:List (Nat×α)},p∈del R k→p∈R∧p.1≠k
 | [],h =>by cases h
 | (t,u)::R,h =>by
  unfold del at h
  split at h
  ·exact ⟨List.mem_cons_of_mem _ (ajE h).1,(ajE h).2⟩
  ·rename_i e
   rcases List.mem_cons.1 h with h | h
   ·subst h
    refine ⟨List.mem_cons_self ..,fun h =>?_⟩
    simp only at h
    subst h
    have:Nat.beq t t=true:=Nat.beq_refl t
    rw [e] at this; cases this
   ·exact ⟨List.mem_cons_of_mem _ (ajE h).1,(ajE h).2⟩
def dR (ρ:Env) (R:aa6):adM:=R.map fun p =>(p.1,aay ρ p.2)
theorem alO {ρ:Env} {R:aa6} {k:Nat} {v:V} (h:get R k=some v):(k,aay ρ v)∈dR ρ R:=List.mem_map.2 ⟨_,aw9 h,rfl⟩
def axO:aa6→Nat
 | [] =>0
 | p::R =>mx (akf p.2) (axO R)
theorem aco {ρ ρ':Env} {n:Nat} (h:aaB n ρ ρ'):∀ R:aa6,axO R≤n→dR ρ R=dR ρ' R
 | [],_ =>rfl
 | p::R,hn =>by
  simp only [axO] at hn
  have h1:akf p.2≤n:=Nat.le_trans aII hn
  have h2:axO R≤n:=Nat.le_trans aFP hn
  show (p.1,aay ρ p.2)::dR ρ R=(p.1,aay ρ' p.2)::dR ρ' R
  rw [aco h R h2,aa5 h _ h1]
def ar6 (R:aa6):Option Tmp→V→aa6
 | none,_ =>R
 | some d,v =>(d,v)::del R d
def aHa (n:Nat):Option Tmp→Bool
 | none =>true
 | some d =>Nat.blt d n
theorem afP {n:Nat} {ρ:Env} {R:aa6} {d:Option Tmp} {v:V} (h:aHa n d=true):Put n (dR ρ R) d (aay ρ v) (dR ρ (ar6 R d v)):=by
 cases d with
 | none =>exact aDQ
 | some d =>
  intro a r
  have hd:d<n:=Nat.le_of_ble_eq_true h
  refine aG9 (R:=dR ρ (del R d)) ?_ a (r.sub fun p hp =>?_)
  ·unfold asp
   simp only [Bool.and_eq_true,List.all_eq_true]
   refine ⟨h,fun p hp =>?_⟩
   obtain ⟨q,hq,rfl⟩:=List.mem_map.1 hp
   simpa using (ajE hq).2
  ·obtain ⟨q,hq,rfl⟩:=List.mem_map.1 hp
   exact List.mem_map.2 ⟨q,(ajE hq).1,rfl⟩
def aC3:Value→V
 | .int k x =>.l k x
 | .bool x =>.t x
 | v =>.c v
theorem ajF (ρ:Env) (v:Value):aay ρ (aC3 v)=v:=by cases v<;>rfl
def evO (R:aa6):Operand→Option V
 | .tmp t =>get R t
 | .const v =>some (aC3 v)
 | .func f =>some (.fn f [])
 | .global _ =>none
theorem aaO {ρ:Env} {R:aa6} {x:Operand} {v:V} (h:evO R x=some v):EvalR (dR ρ R) x (aay ρ v):=by
 cases x with
 | tmp t =>exact .tmp (alO h)
 | const u =>cases h; rw [ajF]; exact .const
 | func f =>cases h; exact .func
 | global g =>cases h
def aH9 (R:aa6):List Operand→Option (List V)
 | [] =>some []
 | x::xs =>match evO R x with
  | some v =>match aH9 R xs with
   | some vs =>some (v::vs)
   | none =>none
  | none =>none
theorem arj {ρ:Env} {R:aa6}:∀ {xs:List Operand} {vs:List V},aH9 R xs=some vs→EvalRs (dR ρ R) xs (aah ρ vs)
 | [],vs,h =>by cases h; exact .nil
 | x::xs,vs,h =>by
  unfold aH9 at h
  split at h
  ·rename_i v hv
   split at h
   ·rename_i us hu
    cases h
    exact .cons (aaO hv) (arj hu)
   ·cases h
  ·cases h
structure Gd where
 P:Prop
 d:Decidable P
def gds {α:Type}:List Gd→Option α→Option α
 | [],k =>k
 | g::l,k =>@ite _ g.P g.d (gds l k) none
theorem ano {α:Type} {k:Option α} {o:α}:∀ {l:List Gd},gds l k=some o→(∀ g∈l,g.P)∧k=some o
 | [],h =>⟨(by simp),h⟩
 | g::l,h =>by
  unfold gds at h
  have:=g.d
  by_cases hg:g.P
  ·rw [if_pos hg] at h
   obtain ⟨h1,h2⟩:=ano h
   exact ⟨fun x hx =>(List.mem_cons.1 hx).elim (fun e =>e▸hg) (h1 x),h2⟩
  ·rw [if_neg hg] at h; cases h
end
end Go.Proofs.YtidhehdanppcoaaGreat
