/- The injector's lock: what a client's step does with it; how many submissions are answered. The injector's lock and the answers to submissions,as an invariant of an engine. MeasureEngine: the aDb of an engine's events. An engine's loops,for any invariant of its machines and every number of workers. MeasureEngine by names. MeasureEngine by names. MeasureEngine by names. MeasureEngine by names. MeasureEngine answers true. -/
import Derived.Test.YteapeojalliebaaGreatMqar
import Derived.Test.YteapeojalliebaaGreatMqaq
set_option linter.all false
namespace Go.Proofs.YteapeojalliebaaGreat
section
open Go Go.RowKit
set_option maxRecDepth 100000
variable [Tb]
inductive Kl (u : Int) (e e' : EnvP) : Bool → Bool → Prop
 | same (b : Bool) : e'.gt 1 = e.gt 1 → e'.gt 2 = e.gt 2 → Kl u e e' b b
 | acq : e.gt 1 = 0 → e'.gt 1 = wu (wi (u + 1)) → e'.gt 2 = e.gt 2 → Kl u e e' false true
 | rel : e'.gt 1 = 0 → e'.gt 2 = e.gt 2 → Kl u e e' true false
 | hold : e'.gt 1 = e.gt 1 → Kl u e e' true true
def aIp (x : Ev) : Bool := decide (x.kind = 1 ∨ x.kind = 2)
def aqu (l : List Ev) : Int := ((l.filter aIp).length : Nat)
theorem axa {l m : List Ev} : aqu (l ++ m) = aqu l + aqu m := by
 unfold aqu
 rw [List.filter_append,List.length_append]
 omega
theorem aAp {l : List Ev} (h : ∀ x ∈ l,3 ≤ x.kind) : aqu l = 0 := by
 unfold aqu
 have : l.filter aIp = [] := List.filter_eq_nil_iff.2 fun x hx =>by
  have := h x hx
  unfold aIp
  rw [decide_eq_true_iff]
  omega
 rw [this]; rfl
theorem aw9 {x : Ev} (h : x.kind = 1 ∨ x.kind = 2) : aqu [x] = 1 := by
 unfold aqu
 have e1 : aIp x = true := decide_eq_true h
 rw [List.filter_cons_of_pos e1]
 rfl
theorem Kw.kl {u : Int} {e e' : EnvP} {b b' : Bool} (h : Kw u e e' b b') : Kl u e e' b b' ∧ e'.gt 3 = e.gt 3 ∧ ∃ l,e'.evs = e.evs ++ l ∧ (∀ x ∈ l,x.worker = u) ∧ aqu l = 0 := by
 have g : (∃ l,e'.evs = e.evs ++ l ∧ ∀ x ∈ l,3 ≤ x.kind ∧ x.worker = u) → ∃ l,e'.evs = e.evs ++ l ∧ (∀ x ∈ l,x.worker = u) ∧ aqu l = 0 := fun ⟨l,h1,h2⟩ =>⟨l,h1,fun x hx =>(h2 x hx).2,aAp fun x hx =>(h2 x hx).1⟩
 have g0 : e'.evs = e.evs → ∃ l,e'.evs = e.evs ++ l ∧ (∀ x ∈ l,x.worker = u) ∧ aqu l = 0 := fun h =>⟨[],by rw [h]; simp,fun x hx =>(by cases hx),rfl⟩
 cases h with
 | same _ h =>exact ⟨.same _ h.l h.s,h.a,g h.ev⟩
 | acq h1 h2 h3 h4 h5 =>exact ⟨.acq h1 h2 h3,h4,g0 h5⟩
 | rel h1 h2 h3 h4 =>exact ⟨.rel h1 h2,h3,g0 h4⟩
 | hold h =>exact ⟨.hold h.l,h.a,g h.ev⟩
def ajo : ClieC → Bool
 | .n1 =>false
 | .a1 =>false
 | .n9 =>false
 | .a9 _ =>false
 | _ =>true
def ati (c : Cfg) (e : EnvP) : ClieC → Prop
 | .n3 =>wi (e.gt 2) < c.heap
 | .n4 =>wi (e.gt 2) < c.heap
 | .n5 =>wi (e.gt 2) < c.heap
 | .n6 =>wi (e.gt 2) < c.heap
 | .a6 _ =>wi (e.gt 2) < c.heap
 | _ =>True
theorem ak2 {c : Cfg} {e e' : EnvP} (h : e'.gt 2 = e.gt 2) {k : ClieC} (hs : ati c e k) : ati c e' k := by
 cases k <;> first | trivial | (show wi (e'.gt 2) < c.heap; rw [h]; exact hs)
theorem axm {c : Cfg} {e : EnvP} {k : ClieC} (hh : ajo k = false) : ati c e k := by
 cases k <;> first | trivial | cases hh
def aqt (k : ClieS) : Int := k.i + match k.c with
 | .n7 =>1
 | .n8 =>1
 | .n9 =>1
 | .a9 _ =>1
 | _ =>0
def iOk (c : Cfg) (k : ClieS) : Prop := k.i ≤ (c.subs.length : Int) ∧ (k.i = (c.subs.length : Int) → k.c = .n1)
def Nv (e e' : EnvP) : Prop := ∃ l,e'.evs = e.evs ++ l ∧ ∀ x ∈ l,x.kind ≠ 5
theorem Nv.rf {e e' : EnvP} (h : e'.evs = e.evs) : Nv e e' := ⟨[],by rw [h]; simp,fun x hx =>(by cases hx)⟩
theorem aCD {w v : Int} {e : EnvP} (s : WakeS) : Nv e (ado w v e s).2 := by
 cases s with
 | l1 j =>exact .rf rfl
 | l2 j x =>exact .rf rfl
 | l3 j x =>exact ⟨[⟨18,w,0,x,0⟩],rfl,fun y hy =>by rw [List.mem_singleton.1 hy]; show (18 : Int) ≠ 5; omega⟩
structure Cr (c : Cfg) (me : Int) (e : EnvP) (k : ClieS) (o : Bool × ClieS × EnvP) : Prop where
 lk : Kl me e o.2.2 (ajo k.c) (ajo o.2.1.c)
 sz : ati c o.2.2 o.2.1.c
 ar : o.2.2.gt 3 ≤ e.gt 3 + 1
 io : iOk c o.2.1
 ev : ∃ l,o.2.2.evs = e.evs ++ l ∧ (∀ x ∈ l,x.kind ≠ 5) ∧ aqu l + aqt k = aqt o.2.1
section
variable {c : Cfg} {e e' : EnvP} {me : Int} {k k' : ClieS} {b : Bool}
theorem Cr.q (q : Qh me e e') (nv : Nv e e') (hh : ajo k'.c = ajo k.c) (hs : ati c e k'.c) (hi : iOk c k') (hn : aqt k' = aqt k) : Cr c me e k (b,k',e') := by
 obtain ⟨l,h1,h2⟩ := q.ev
 obtain ⟨l',h3,h4⟩ := nv
 have hll : l' = l := List.append_cancel_left (h3.symm.trans h1)
 rw [hll] at h4
 refine ⟨?_,ak2 q.s hs,by have := q.a; show e'.gt 3 ≤ _; omega,hi,l,h1,h4,?_⟩
 ·show Kl me e e' (ajo k.c) (ajo k'.c)
  rw [hh]; exact .same _ q.l q.s
 ·show aqu l + aqt k = aqt k'
  rw [aAp fun x hx =>(h2 x hx).1,hn]; omega
theorem Cr.ans (q : Qh me e e') {x : Ev} (hx : (x.kind = 1 ∨ x.kind = 2) ∧ x.worker = me) (hv : e'.evs = e.evs) (hh : ajo k'.c = ajo k.c) (hs : ati c e k'.c) (hi : iOk c k') (hn : aqt k' = aqt k + 1) : Cr c me e k (b,k',{ e' with evs := e'.evs ++ [x] }) := by
 refine ⟨?_,ak2 (e' := { e' with evs := e'.evs ++ [x] }) q.s hs,by have := q.a; show e'.gt 3 ≤ _; omega,hi,[x],by show e'.evs ++ [x] = _; rw [hv],fun y hy =>by rw [List.mem_singleton.1 hy]; have := hx.1; omega,?_⟩
 ·show Kl me e _ (ajo k.c) (ajo k'.c)
  rw [hh]; exact .same _ q.l q.s
 ·show aqu [x] + aqt k = aqt k'
  rw [aw9 hx.1,hn]; omega
theorem aHm (h : MI c e) (hl : 3 < (e.m.cells.length : Int)) (hi : k.i < (c.subs.length : Int)) (h0 : 0 ≤ k.i) (ht : TOk c k.id) (ha : e.gt 3 ≤ 1000000) (hs : wi (e.gt 2) < c.heap) (hc : k.c = .n6 ∨ ∃ s,k.c = .a6 s) (t : InsertS) :
  Cr c me e k (match abH (abC c.subs k.i).deadline k.id e t with
  | (.go t,e') =>(false,{ k with c := .a6 t },e')
  | (.fin c0 _,e') =>if c0 = 0 then (false,{ k with acc := true,c := .n7 },e'.em 1 me k.id k.i (abC c.subs k.i).level) else (false,{ k with c := .n8 },e')) := by
 have hh : ajo k.c = true := by rcases hc with h | ⟨s,h⟩ <;> rw [h] <;> rfl
 have hn : aqt k = k.i := by
  unfold aqt
  rcases hc with h | ⟨s,h⟩ <;> rw [h] <;> exact Int.add_zero _
 have sd : 0 ≤ (abC c.subs k.i).deadline ∧ (abC c.subs k.i).deadline ≤ 15 := (h.d.ss _ (aun (α := Sub) (d := (dfR 4 : TR 4)) ⟨h0,hi⟩)).2.2
 have q : ∀ {e' : EnvP} (s : InsertS),Qh me e e' → e'.evs = e.evs → Cr c me e k (false,{ k with c := .a6 s },e') := fun s q v =>
  Cr.q q (.rf v) hh.symm hs ⟨by show k.i ≤ _; omega,fun j =>by have j : k.i = _ := j; omega⟩ (by rw [hn]; exact Int.add_zero _)
 cases t with
 | l1 =>
  have e0 : ¬ e.c.heap ≤ wi (e.gt 2) := by rw [h.cc]; omega
  simp only [abH]
  rw [if_neg e0]
  exact q _ .lk rfl
 | l2 n =>
  have a0 : 0 ≤ e.gt 3 := (h.ok 3).p
  have hd := h.d.t
  have ew : wi (e.gt 3) = e.gt 3 := aaF (aan (by omega))
  obtain ⟨t1,t2⟩ := ht
  have hp : (amH (abC c.subs k.i).deadline (wi (e.gt 3)) k.id).2 = true := by
   unfold amH
   rw [ew,if_neg (by omega),if_neg (by omega),if_neg (by omega),if_neg (by omega),if_neg (by omega),if_neg (by omega)]
  simp only [abH]
  rw [if_pos hp]
  have g : ∀ b,(e.pt 6 3 (wu (e.gt 3 + 1))).gt b = if b = 3 ∧ 0 ≤ (3 : Int) ∧ 3 < (e.m.cells.length : Int) then wu (e.gt 3 + 1) else e.gt b := fun b =>afx
  have g1 : (e.pt 6 3 (wu (e.gt 3 + 1))).gt 1 = e.gt 1 := by rw [g,if_neg (by omega)]
  have g2 : (e.pt 6 3 (wu (e.gt 3 + 1))).gt 2 = e.gt 2 := by rw [g,if_neg (by omega)]
  have g3 : (e.pt 6 3 (wu (e.gt 3 + 1))).gt 3 = e.gt 3 + 1 := by rw [g,if_pos (by omega),agb (by omega)]
  refine ⟨?_,?_,?_,⟨by show k.i ≤ _; omega,fun j =>by have j : k.i = _ := j; omega⟩,[],by show e.evs = _; simp,fun x hx =>(by cases hx),?_⟩
  ·show Kl me e _ (ajo k.c) true
   rw [hh]; exact .same _ g1 g2
  ·show wi ((e.pt 6 3 (wu (e.gt 3 + 1))).gt 2) < c.heap
   rw [g2]; exact hs
  ·show (e.pt 6 3 (wu (e.gt 3 + 1))).gt 3 ≤ _
   rw [g3]; exact Int.le_refl _
  ·show (0 : Int) + aqt k = k.i + 0
   rw [hn]; omega
 | l3 n i kk x =>
  simp only [abH]
  by_cases hk : kk < e.gt (aeC e.l (upP i))
  ·rw [if_pos hk]; exact q _ .lk rfl
  ·rw [if_neg hk]; exact q _ .lk rfl
 | l4 n i kk x =>
  simp only [abH]
  rw [h.l]
  exact q _ (.wr h.d (ar9 h.d)) rfl
 | l5 n i kk x =>
  simp only [abH]
  rw [h.l]
  exact q _ (.wr h.d (ar9 h.d)) rfl
 | l6 n i kk x =>
  simp only [abH]
  rw [if_pos trivial]
  have g : ∀ b,(e.pt 2 2 (wu (wi (n + 1)))).gt b = if b = 2 ∧ 0 ≤ (2 : Int) ∧ 2 < (e.m.cells.length : Int) then wu (wi (n + 1)) else e.gt b := fun b =>afx
  have g1 : (e.pt 2 2 (wu (wi (n + 1)))).gt 1 = e.gt 1 := by rw [g,if_neg (by omega)]
  have g3 : (e.pt 2 2 (wu (wi (n + 1)))).gt 3 = e.gt 3 := by rw [g,if_neg (by omega)]
  refine ⟨?_,trivial,?_,⟨by show k.i ≤ _; omega,fun j =>by have j : k.i = _ := j; omega⟩,[⟨1,me,k.id,k.i,(abC c.subs k.i).level⟩],rfl,fun x hx =>by rw [List.mem_singleton.1 hx]; show (1 : Int) ≠ 5; omega,?_⟩
  ·show Kl me e _ (ajo k.c) true
   rw [hh]; exact .hold g1
  ·show (e.pt 2 2 (wu (wi (n + 1)))).gt 3 ≤ _
   rw [g3]; omega
  ·show aqu [_] + aqt k = k.i + 1
   rw [aw9 (.inl rfl),hn]; omega
theorem aII (hi : k.i < (c.subs.length : Int)) (h0 : 0 ≤ k.i) (hsn : c.subs.length ≤ 5) : iOk c { k with i := wi (k.i + 1),acc := false,c := .n1 } ∧ aqt { k with i := wi (k.i + 1),acc := false,c := .n1 } = k.i + 1 := by
 have e1 : wi (k.i + 1) = k.i + 1 := aaF (aan (by omega))
 rw [e1]
 exact ⟨⟨by show k.i + 1 ≤ _; omega,fun _ =>rfl⟩,Int.add_zero _⟩
theorem aHT (h : MI c e) (hn : (e.m.cells.length : Int) = aaM c) (hk : avE c k) (ho : iOk c k) (hs : ati c e k.c) (ha : e.gt 3 ≤ 1000000) : Cr c me e k (am0 c.subs me e k) := by
 have hl := aJp h hn
 have hsn := h.d.sn
 unfold am0
 by_cases hov : (c.subs.length : Int) ≤ k.i
 ·rw [if_pos hov]
  exact Cr.q .refl (.rf rfl) rfl hs ho rfl
 rw [if_neg hov]
 have hi : k.i < (c.subs.length : Int) := by omega
 have h0 := hk.1
 obtain ⟨nx1,nx2⟩ := aII (k := k) hi h0 hsn
 obtain ⟨i,id,acc,g⟩ := k
 obtain ⟨_,h1⟩ := hk
 simp only at hi h0 nx1 nx2 hs
 have io : ∀ {a : Bool} {t : Int} {g' : ClieC},iOk c ⟨i,t,a,g'⟩ := fun {a t g'} =>⟨by show i ≤ _; omega,fun j =>by have j : i = _ := j; omega⟩
 cases g with
 | n1 =>
  simp only [abQ]
  by_cases hh : e.hit 1 0 = true
  ·rw [if_pos hh]
   obtain ⟨a1,a2,a3,a4,a5⟩ := arX (o := me) hl hh
   exact ⟨.acq a1 a2 a3,trivial,by show (ahL me e).gt 3 ≤ _; omega,io,[],by show (ahL me e).evs = _; rw [a5]; simp,fun x hx =>(by cases hx),Int.zero_add _⟩
  ·rw [if_neg hh]; exact Cr.q (apv hl hh) (.rf rfl) rfl trivial io rfl
 | a1 =>
  simp only [abQ]
  by_cases hh : e.hit 1 0 = true
  ·rw [if_pos hh]
   obtain ⟨a1,a2,a3,a4,a5⟩ := arX (o := me) hl hh
   exact ⟨.acq a1 a2 a3,trivial,by show (ahL me e).gt 3 ≤ _; omega,io,[],by show (ahL me e).evs = _; rw [a5]; simp,fun x hx =>(by cases hx),Int.zero_add _⟩
  ·rw [if_neg hh]; exact Cr.q (apv hl hh) (.rf rfl) rfl trivial io rfl
 | n2 =>
  simp only [abQ]
  rw [h.cc]
  split
  ·exact Cr.ans (e' := e.lk 2) .lk ⟨.inr rfl,rfl⟩ rfl rfl trivial io (by show i + 1 = i + 0 + 1; omega)
  ·rename_i hq
   exact Cr.q .lk (.rf rfl) rfl (by show wi (e.gt 2) < c.heap; omega) io rfl
 | n3 =>
  simp only [abQ]
  split
  ·exact Cr.q (asO h.d).pr (.rf rfl) rfl hs io rfl
  ·exact Cr.ans (e' := abV e) (asO h.d) ⟨.inr rfl,rfl⟩ rfl rfl trivial io (by show i + 1 = i + 0 + 1; omega)
 | n4 =>
  simp only [abQ]
  rw [h.l]
  exact Cr.q (.wr h.d (ajY h.d)) (.rf rfl) rfl hs io rfl
 | n5 =>
  simp only [abQ]
  rw [h.l]
  exact Cr.q (.wr h.d (amX h.d (by omega))) (.rf rfl) rfl hs io rfl
 | n6 =>exact aHm (k := ⟨i,id,acc,.n6⟩) h hl hi h0 h1 ha hs (.inl rfl) .l1
 | a6 t =>exact aHm (k := ⟨i,id,acc,.a6 t⟩) h hl hi h0 h1.1 ha hs (.inr ⟨_,rfl⟩) t
 | n7 =>
  simp only [abQ]
  rw [h.l]
  exact Cr.q (.wr h.d (agx h.d)) (.rf rfl) rfl trivial io rfl
 | n8 =>
  simp only [abQ]
  obtain ⟨a1,a2,a3,a4⟩ := aC2 hl
  split
  ·exact ⟨.rel a1 a2,trivial,by show (aif e).gt 3 ≤ _; omega,io,[],by show (aif e).evs = _; rw [a4]; simp,fun x hx =>(by cases hx),Int.zero_add _⟩
  ·exact ⟨.rel a1 a2,trivial,by show (aif e).gt 3 ≤ _; omega,nx1,[],by show (aif e).evs = _; rw [a4]; simp,fun x hx =>(by cases hx),by rw [show aqt (axM c.subs ⟨i,id,acc,.n8⟩ (aif e)).2.1 = i + 1 from nx2]; exact Int.zero_add _⟩
 | n9 =>
  have := ata (w := me) (v := (abC c.subs i).level) h (.l1 0)
  have nv := aCD (w := me) (v := (abC c.subs i).level) (e := e) (.l1 0)
  simp only [abQ]
  revert this nv
  rcases ado me (abC c.subs i).level e (.l1 0) with ⟨r,e'⟩
  intro this nv
  cases r with
  | go s =>exact Cr.q this nv rfl trivial io rfl
  | fin c0 v0 =>exact Cr.q this nv rfl trivial nx1 nx2
 | a9 t =>
  have := ata (w := me) (v := (abC c.subs i).level) h t
  have nv := aCD (w := me) (v := (abC c.subs i).level) (e := e) t
  simp only [abQ]
  revert this nv
  rcases ado me (abC c.subs i).level e t with ⟨r,e'⟩
  intro this nv
  cases r with
  | go s =>exact Cr.q this nv rfl trivial io rfl
  | fin c0 v0 =>exact Cr.q this nv rfl trivial nx1 nx2
end
structure DM (c : Cfg) (N : Nat) (e : EnvP) (bs : Nat → Bool) : Prop where
 ei : EI c (1 + 3 * N) e
 m : MI c e
 n : (e.m.cells.length : Int) = aaM c
 ar : e.gt 3 ≤ N
 lk : ∀ m,bs m = true → e.gt 1 = (m : Int) + 1
 sw : ∀ x ∈ e.evs,x.kind = 5 → 0 ≤ x.worker ∧ x.worker < c.workers
def WK (c : Cfg) (N : Nat) (j : Int) (w : WorkerV MV) (b : Bool) : Prop := ∃ k,w = acN (aam c) j k ∧ ahg (1 + 3 * N) (mnC c) k ∧ asU c k ∧ akJ k.c = b
def CK (c : Cfg) (e : EnvP) (l : ClientV MV) (b : Bool) : Prop := ∃ k,l = aju c.subs c.workers k ∧ avE c k ∧ iOk c k ∧ ati c e k.c ∧ ajo k.c = b ∧ aqu e.evs = aqt k
def KI (c : Cfg) (N : Nat) (e : EnvP) (ws : List (WorkerV MV)) (cl : ClientV MV) : Prop :=
 ∃ bs,DM c N e bs ∧ (∀ (j : Nat) w,ws[j]? = some w → WK c N j w (bs j)) ∧ CK c e cl (bs ws.length) ∧ (ws.length : Int) = c.workers
section
variable {c : Cfg} {N : Nat} {e e' : EnvP} {bs : Nat → Bool} {w : WorkerV MV} {l : ClientV MV} {b b' : Bool}
theorem WK.next {j : Int} (hw : WK c N j w b) : WK c (N + 1) j w b := by
 obtain ⟨k,h1,h2,h3⟩ := hw
 exact ⟨k,h1,h2.up (by omega),h3⟩
theorem DM.next (h : DM c N e bs) : DM c (N + 1) e bs := ⟨h.ei.up (by omega),h.m,h.n,by have := h.ar; omega,h.lk,h.sw⟩
theorem DM.clk {k : ClkV} (h : DM c N e bs) : DM c N { e with k := k } bs := ⟨h.ei.clk,h.m.ex,h.n,h.ar,h.lk,h.sw⟩
theorem aER {m : Nat} (hm : (m : Int) ≤ 1000) (h : ∀ i,bs i = true → e.gt 1 = (i : Int) + 1) (t : Kl m e e' (bs m) b') : ∀ i,ait bs m b' i = true → e'.gt 1 = (i : Int) + 1 := by
 intro i hi
 generalize hb : bs m = b at t
 by_cases him : i = m
 ·subst him
  rw [ab7] at hi
  cases t with
  | same _ h1 h2 =>rw [h1]; exact h i (hb.trans hi)
  | acq h0 h1 h2 =>rw [h1,aaF (aan (by omega)),agb (by omega)]
  | rel h1 h2 =>cases hi
  | hold h1 =>rw [h1]; exact h i hb
 ·rw [ac5 him] at hi
  have hq := h i hi
  cases t with
  | same _ h1 h2 =>rw [h1]; exact hq
  | acq h0 h1 h2 =>omega
  | rel h1 h2 =>have := h m hb; omega
  | hold h1 =>rw [h1]; exact hq
theorem DM.stp (h : DM c N e bs) (hN : N ≤ 100000) (s : Stp 2 e e') {m : Nat} {p q : aq5} (hm : (m : Int) ≤ 1000) (t : Tr c e e' p q) (k : Kl m e e' (bs m) b') (ha : e'.gt 3 ≤ e.gt 3 + 1)
  (he : ∃ l,e'.evs = e.evs ++ l ∧ ∀ x ∈ l,x.kind = 5 → 0 ≤ x.worker ∧ x.worker < c.workers) : DM c (N + 1) e' (ait bs m b') := by
 have s1 := h.ei.stp (by omega) s
 have en : 1 + 3 * N + 3 = 1 + 3 * (N + 1) := by omega
 rw [en] at s1
 obtain ⟨l,h1,h2⟩ := he
 refine ⟨s1,t.i,by rw [(azg s.m h.ei.ct (by omega)).2]; exact h.n,by have := h.ar; omega,aER hm h.lk k,fun x hx =>?_⟩
 rw [h1] at hx
 rcases List.mem_append.1 hx with hx | hx
 ·exact h.sw x hx
 ·exact h2 x hx
theorem awA : EngI c (KI c) where
 w {N e ws cl j w} h hN hj := by
  obtain ⟨bs,h1,h2,h3,hlen⟩ := h
  have hl := awG hj
  obtain ⟨k,rfl,hk,hg,hv⟩ := h2 j w hj
  rw [← h1.ei.many] at hk
  have hw4 := h1.m.d.w
  have s1 := avI (w := (j : Int)) h1.ei.ok (by omega) k hk
  have s2 := ax3 (w := (j : Int)) h1.ei.ok k
  have s3 := ax2 (w := (j : Int)) h1.ei.ok k hk (by omega)
  have s4 := aCB (w := (j : Int)) h1.m h1.n hg
  have s5 := aF6 (w := (j : Int)) h1.m h1.n hg
  rw [h1.ei.many] at s3
  rw [h1.ei.l] at s1
  obtain ⟨k1,k2,ll,k3,k4,k5⟩ := s5.kl
  rw [hv] at k1
  refine ⟨_,s1,⟨_,h1.stp hN s2 (by omega) s4.1 k1 (by omega) ⟨ll,k3,fun x hx _ =>by rw [k4 x hx]; omega⟩,fun i u hu =>?_,?_,by rw [List.length_set]; exact hlen⟩,s4.1.evs⟩
  ·by_cases hij : i = j
   ·subst hij
    rw [List.getElem?_set_self hl] at hu
    rw [ab7,← Option.some.inj hu]
    exact ⟨_,rfl,s3.up (by omega),s4.2,rfl⟩
   ·rw [List.getElem?_set_ne (fun k =>hij k.symm)] at hu
    rw [ac5 hij]
    exact (h2 i u hu).next
  ·rw [List.length_set,ac5 (by omega)]
   obtain ⟨kc,q1,q2,q3,q4,q5,q6⟩ := h3
   refine ⟨kc,q1,q2,q3,?_,q5,?_⟩
   ·generalize hb : bs j = b at k1
    generalize akJ (acy (j : Int) e k).1.c = b1 at k1
    cases k1 with
    | same _ a1 a2 =>exact ak2 a2 q4
    | acq a0 a1 a2 =>exact ak2 a2 q4
    | rel a1 a2 =>exact ak2 a2 q4
    | hold a1 =>
     refine axm ?_
     cases hq : ajo kc.c with
     | false =>rfl
     | true =>
      have e1 := h1.lk j hb
      have e2 := h1.lk ws.length (q5 ▸ hq)
      omega
   ·rw [k3,axa,k5,q6]; omega
 c {N e ws cl} h hN := by
  obtain ⟨bs,h1,h2,h3,hlen⟩ := h
  obtain ⟨k,rfl,hk,hi,hz,hv,ha⟩ := h3
  have hw4 := h1.m.d.w
  have har := h1.ar
  have s1 := awZ (subs := c.subs) (me := c.workers) h1.ei.ok (by omega) k hk.1
  have s2 := az2 (subs := c.subs) (me := c.workers) h1.ei.ok k
  have s4 := aDc (me := c.workers) h1.m h1.n hk
  have s5 := aHT (me := c.workers) h1.m h1.n hk hi hz (by omega)
  obtain ⟨ll,k3,k4,k5⟩ := s5.ev
  have k1 : Kl (ws.length : Int) e (am0 c.subs c.workers e k).2.2 (bs ws.length) (ajo (am0 c.subs c.workers e k).2.1.c) := by
   have k0 := s5.lk
   rw [hv] at k0
   rw [hlen]
   exact k0
  refine ⟨_,s1,⟨_,h1.stp (m := ws.length) hN s2 (by omega) s4.1 k1 s5.ar ⟨ll,k3,fun x hx h5 =>absurd h5 (k4 x hx)⟩,fun i u hu =>?_,?_,hlen⟩,s4.1.evs⟩
  ·have := awG hu
   rw [ac5 (by omega)]; exact (h2 i u hu).next
  ·rw [ab7]
   exact ⟨_,rfl,s4.2,s5.io,s5.sz,rfl,by rw [k3,axa,ha]; omega⟩
 n {N e ws cl} h := by
  obtain ⟨bs,h1,h2,h3,hlen⟩ := h
  exact ⟨bs,h1.next,fun i u hu =>(h2 i u hu).next,h3,hlen⟩
 k {N e ws cl k} h := by
  obtain ⟨bs,h1,h2,h3,hlen⟩ := h
  exact ⟨bs,h1.clk,h2,h3,hlen⟩
 ev {N e ws cl} h := by
  obtain ⟨bs,h1,h2,h3,hlen⟩ := h
  exact h1.ei.ok.ev
theorem awz (h : DecOk c) {ws : List (WorkerV MV)} (hlen : (ws.length : Int) = c.workers) (hw : ∀ (j : Nat) w,ws[j]? = some w → w = acN (aam c) j ⟨0,0,0,0,.top⟩) : KI c 0 (akt c) ws (aju c.subs c.workers ⟨0,0,false,.n1⟩) := by
 refine ⟨fun _ =>false,⟨aC8 h,aCW h,auj h,by rw [aqS]; exact Int.le_refl 0,fun m k =>(by cases k),fun x hx =>(by cases hx)⟩,fun j w hj =>by rw [hw j w hj]; exact ⟨_,rfl,trivial,trivial,rfl⟩,⟨_,rfl,⟨Int.le_refl 0,trivial⟩,⟨by show (0 : Int) ≤ _; omega,fun _ =>rfl⟩,trivial,rfl,rfl⟩,hlen⟩
theorem aHk {ws : List (WorkerV MV)} {cl : ClientV MV} (h : KI c N e ws cl) : aqu e.evs ≤ (c.subs.length : Int) ∧ ((cl.subs.length : Int) ≤ cl.i → aqu e.evs = (c.subs.length : Int)) ∧ ∀ x ∈ e.evs,x.kind = 5 → 0 ≤ x.worker ∧ x.worker < c.workers := by
 obtain ⟨bs,h1,h2,h3,hlen⟩ := h
 obtain ⟨k,rfl,hk,⟨hi,hi2⟩,hz,hv,ha⟩ := h3
 rw [ha]
 refine ⟨?_,fun ho =>?_,h1.sw⟩
 ·by_cases hq : k.i = (c.subs.length : Int)
  ·unfold aqt
   rw [hi2 hq]
   show k.i + 0 ≤ _
   omega
  ·have g : aqt k ≤ k.i + 1 := by
    unfold aqt
    split <;> omega
   omega
 ·have ho : (c.subs.length : Int) ≤ k.i := ho
  unfold aqt
  rw [hi2 (by omega)]
  show k.i + 0 = _
  omega
theorem aon {I J : Nat → EnvP → List (WorkerV MV) → ClientV MV → Prop} (hI : EngI c I) (hJ : EngI c J) : EngI c fun N e ws cl =>I N e ws cl ∧ J N e ws cl where
 w h hN hj := by
  obtain ⟨o,e1,a1,a2⟩ := hI.w h.1 hN hj
  obtain ⟨o',e2,b1,_⟩ := hJ.w h.2 hN hj
  obtain rfl : o = o' := Option.some.inj (e1.symm.trans e2)
  exact ⟨o,e1,⟨a1,b1⟩,a2⟩
 c h hN := by
  obtain ⟨o,e1,a1,a2⟩ := hI.c h.1 hN
  obtain ⟨o',e2,b1,_⟩ := hJ.c h.2 hN
  obtain rfl : o = o' := Option.some.inj (e1.symm.trans e2)
  exact ⟨o,e1,⟨a1,b1⟩,a2⟩
 n h := ⟨hI.n h.1,hJ.n h.2⟩
 k h := ⟨hI.k h.1,hJ.k h.2⟩
 ev h := hI.ev h.1
end
def cE (p : Int → Bool) (l : List Ev) : Nat := l.countP fun x =>p x.kind
def as1 (f : Int → Nat) : Nat → Nat
 | 0 =>0
 | n + 1 =>as1 f n + f n
theorem aml {f g : Int → Nat} : ∀ {n : Nat},(∀ t : Int,0 ≤ t → t < n → f t ≤ g t) → as1 f n ≤ as1 g n
 | 0,_ =>Nat.le_refl 0
 | n + 1,h =>by
  have h1 := aml (n := n) fun t a b =>h t a (by omega)
  have h2 := h n (by omega) (by omega)
  show as1 f n + f n ≤ as1 g n + g n
  omega
theorem avQ : ∀ {n : Nat},as1 (fun _ =>1) n = n
 | 0 =>rfl
 | n + 1 =>by show as1 _ n + 1 = n + 1; rw [avQ]
theorem aoN : ∀ {n : Nat},as1 (fun _ =>0) n = 0
 | 0 =>rfl
 | n + 1 =>by show as1 _ n + 0 = 0; rw [aoN]
theorem avR {f g : Int → Nat} : ∀ {n : Nat},as1 (fun t =>f t + g t) n = as1 f n + as1 g n
 | 0 =>rfl
 | n + 1 =>by
  show as1 _ n + (f n + g n) = as1 f n + f n + (as1 g n + g n)
  rw [avR]; omega
theorem aye {a : Int} : ∀ {n : Nat},as1 (fun t =>if a = t then 1 else 0) n = if 0 ≤ a ∧ a < n then 1 else 0
 | 0 =>by rw [if_neg (by omega)]; rfl
 | n + 1 =>by
  show as1 _ n + (if a = (n : Int) then 1 else 0) = _
  rw [aye]
  by_cases h : a = n
  ·rw [if_neg (by omega),if_pos h,if_pos (by omega)]
  ·rw [if_neg h]
   by_cases h2 : 0 ≤ a ∧ a < n
   ·rw [if_pos h2,if_pos (by omega)]
   ·rw [if_neg h2,if_neg (by omega)]
theorem aw3 {p : Int → Bool} {n : Nat} : ∀ {l : List Ev},(∀ t : Int,¬ (0 ≤ t ∧ t < n) → abP p l t = 0) → cE p l = as1 (abP p l) n
 | [],_ =>(aoN (n := n)).symm
 | x :: l,h =>by
  have hx : ∀ t,abP p (x :: l) t = abP p l t + (if decide (x.task = t) && p x.kind then 1 else 0) := fun t =>List.countP_cons
  have h1 : ∀ t : Int,¬ (0 ≤ t ∧ t < n) → abP p l t = 0 := fun t ht =>by have := h t ht; rw [hx] at this; omega
  have e0 : cE p (x :: l) = cE p l + (if p x.kind then 1 else 0) := List.countP_cons
  rw [e0,aw3 h1,show abP p (x :: l) = fun t =>abP p l t + (if decide (x.task = t) && p x.kind then 1 else 0) from funext hx,avR]
  cases hp : p x.kind with
  | false =>
   have : (fun t =>if (decide (x.task = t) && false) = true then 1 else 0) = fun _ : Int =>0 := funext fun t =>by rw [Bool.and_false]; rfl
   rw [this,aoN]; rfl
  | true =>
   have : (fun t =>if (decide (x.task = t) && true) = true then 1 else 0) = fun t : Int =>if x.task = t then 1 else 0 := funext fun t =>by
    rw [Bool.and_true]
    by_cases k : x.task = t
    ·rw [if_pos k,if_pos (decide_eq_true k)]
    ·rw [if_neg k,if_neg (by rw [decide_eq_true_iff]; exact k)]
   have hR : 0 ≤ x.task ∧ x.task < (n : Int) := by
    refine Decidable.byContradiction fun k =>?_
    have := h _ k
    rw [hx,hp,Bool.and_true,if_pos (decide_eq_true rfl)] at this
    omega
   rw [this,aye,if_pos hR]
   rfl
theorem aq0 {k : Int} : ∀ {st : List Int} {l : List Ev},st.length = l.length → cS k (List.zipWith stF st l) = (cE (fun j =>decide (j = k)) l : Nat)
 | [],[],_ =>rfl
 | s :: st,x :: l,h =>by
  have ih := aq0 (k := k) (st := st) (l := l) (by simpa using h)
  have e0 : cE (fun j =>decide (j = k)) (x :: l) = cE (fun j =>decide (j = k)) l + (if decide (x.kind = k) then 1 else 0) := List.countP_cons
  rw [e0]
  show cS k (stF s x :: List.zipWith stF st l) = _
  unfold cS at ih ⊢
  by_cases h : x.kind = k
  ·have e1 : cP k (stF s x) = true := decide_eq_true h
   rw [List.filter_cons_of_pos e1,List.length_cons,if_pos (decide_eq_true h)]; omega
  ·have e1 : ¬ cP k (stF s x) = true := fun j =>h (of_decide_eq_true j)
   rw [List.filter_cons_of_neg e1,if_neg (by rw [decide_eq_true_iff]; exact h)]; omega
theorem aFF {p q r : Int → Bool} (h : ∀ k,(if p k then 1 else 0) + (if q k then 1 else 0) = (if r k then 1 else 0 : Nat)) : ∀ {l : List Ev},cE p l + cE q l = cE r l
 | [] =>rfl
 | x :: l =>by
  have ih := aFF h (l := l)
  have e0 : cE p (x :: l) = cE p l + (if p x.kind then 1 else 0) := List.countP_cons
  have e1 : cE q (x :: l) = cE q l + (if q x.kind then 1 else 0) := List.countP_cons
  have e2 : cE r (x :: l) = cE r l + (if r x.kind then 1 else 0) := List.countP_cons
  have := h x.kind
  omega
theorem aIM {l : List Ev} : cE (fun j =>decide (j = 1)) l + cE (fun j =>decide (j = 3)) l = cE kKn l := aFF fun k =>by
 unfold kKn
 by_cases h1 : k = 1
 ·subst h1; rfl
 ·by_cases h3 : k = 3
  ·subst h3; rfl
  ·simp [h1,h3]
theorem aH1 {l : List Ev} : ((cE (fun j =>decide (j = 1)) l + cE (fun j =>decide (j = 2)) l : Nat) : Int) = aqu l := by
 have e1 : cE (fun j =>decide (j = 1)) l + cE (fun j =>decide (j = 2)) l = cE (fun j =>decide (j = 1 ∨ j = 2)) l := aFF fun k =>by
  by_cases h1 : k = 1
  ·subst h1; rfl
  ·by_cases h3 : k = 2
   ·subst h3; rfl
   ·simp [h1,h3]
 rw [e1]
 unfold aqu cE
 rw [List.countP_eq_length_filter]
 rfl
section
variable {c : Cfg} {N : Nat} {e : EnvP} {ws : List (WorkerV MV)} {cl : ClientV MV}
def JL2 (c : Cfg) (N : Nat) (e : EnvP) (ws : List (WorkerV MV)) (cl : ClientV MV) : Prop :=
 ∃ vs,DL c N e vs ∧ (∀ (j : Nat) w,ws[j]? = some w → WL c N j w (vs j)) ∧ CL c cl (vs ws.length) ∧ ∀ m,ws.length < m → vs m = ([],.n)
theorem aic : EngI c (JL2 c) where
 w {N e ws cl j w} h hN hj := by
  obtain ⟨vs,h1,h2,h3,h4⟩ := h
  have hl := awG hj
  refine (aDi h1 hN (h2 j w hj)).mono fun o ⟨v',g1,g2,g3⟩ =>⟨⟨_,g1,fun i u hu =>?_,?_,fun m hm =>?_⟩,g3⟩
  ·by_cases hij : i = j
   ·subst hij
    rw [List.getElem?_set_self hl] at hu
    rw [ab7,← Option.some.inj hu]
    exact g2
   ·rw [List.getElem?_set_ne (fun k =>hij k.symm)] at hu
    rw [ac5 hij]
    exact (h2 i u hu).next
  ·rw [List.length_set,ac5 (by omega)]; exact h3
  ·rw [List.length_set] at hm
   rw [ac5 (by omega)]; exact h4 m hm
 c {N e ws cl} h hN := by
  obtain ⟨vs,h1,h2,h3,h4⟩ := h
  refine (aFD h1 hN h3).mono fun o ⟨v',g1,g2,g3⟩ =>⟨⟨_,g1,fun i u hu =>?_,by rw [ab7]; exact g2,fun m hm =>by rw [ac5 (by omega)]; exact h4 m hm⟩,g3⟩
  have := awG hu
  rw [ac5 (by omega)]; exact (h2 i u hu).next
 n {N e ws cl} h := by
  obtain ⟨vs,h1,h2,h3,h4⟩ := h
  exact ⟨vs,h1.next,fun i u hu =>(h2 i u hu).next,h3,h4⟩
 k {N e ws cl k} h := by
  obtain ⟨vs,h1,h2,h3,h4⟩ := h
  exact ⟨vs,h1.clk,h2,h3,h4⟩
 ev {N e ws cl} h := by
  obtain ⟨vs,h1,h2,h3,h4⟩ := h
  exact h1.ei.ok.ev
theorem ar1 (h : DecOk c) (hw : ∀ (j : Nat) w,ws[j]? = some w → w = acN (aam c) j ⟨0,0,0,0,.top⟩) : JL2 c 0 (akt c) ws (aju c.subs c.workers ⟨0,0,false,.n1⟩) :=
 ⟨_,aHN h,fun j w hj =>by rw [hw j w hj]; exact aF7,aHU,fun _ _ =>rfl⟩
theorem aBr (h : JL2 c N e ws cl) : (∀ t,¬ TOk c t → abP kKn e.evs t = 0 ∧ abP kSn e.evs t = 0 ∧ abP kFn e.evs t = 0) ∧
  (∀ t,TOk c t → abP kKn e.evs t ≤ 1 ∧ abP kSn e.evs t ≤ abP kKn e.evs t ∧ abP kFn e.evs t ≤ abP kSn e.evs t) ∧
  (asZ c e ws cl → ∀ t,TOk c t → abP kFn e.evs t = abP kKn e.evs t) := by
 obtain ⟨vs,h1,h2,h3,h4⟩ := h
 obtain ⟨rl,ts,la⟩ := h1.li
 refine ⟨la.no,fun t ht =>?_,fun hd t ht =>?_⟩
 ·have cl0 := la.cl t ht
  have cl1 : abP kSn e.evs t = (if (ahW c e ts vs).st t = true then 1 else 0) ∧ (ts t = .fresh ↔ e.gt 0 ≤ t) ∧ aH2 (ts t) (Stt c e t) ((ahW c e ts vs).wa t) (Jo c e t) ((ahW c e ts vs).st t) (abP kKn e.evs t) (abP kFn e.evs t) := cl0
  obtain ⟨c1,c2,c3⟩ := cl1
  have b0 : abP kSn e.evs t ≤ 1 := by rw [c1]; split <;> omega
  revert c3
  cases ts t with
  | fresh =>rintro ⟨_,a,b,d⟩; rw [a,if_neg (by decide)] at c1; omega
  | alloc m =>rintro ⟨_,a,b,d⟩; rw [a,if_neg (by decide)] at c1; omega
  | acc m =>rintro ⟨_,a,b,d⟩; rw [a,if_neg (by decide)] at c1; omega
  | ready =>rintro ⟨_,b,d⟩; omega
  | run m =>rintro ⟨_,a,b,d⟩; rw [a,if_pos rfl] at c1; omega
  | bm m =>rintro ⟨_,a,b,d⟩; rw [a,if_pos rfl] at c1; omega
  | wait u =>rintro ⟨_,a,b,d,_⟩; rw [a,if_pos rfl] at c1; omega
  | fin m =>rintro ⟨_,a,b,d⟩; rw [a,if_pos rfl] at c1; omega
  | fg m =>rintro ⟨_,a,b,d,_⟩; rw [a,if_pos rfl] at c1; omega
  | done =>rintro ⟨_,a,b,d,_⟩; rw [a,if_pos rfl] at c1; omega
 ·have cl0 := la.cl t ht
  have cl1 : abP kSn e.evs t = (if (ahW c e ts vs).st t = true then 1 else 0) ∧ (ts t = .fresh ↔ e.gt 0 ≤ t) ∧ aH2 (ts t) (Stt c e t) ((ahW c e ts vs).wa t) (Jo c e t) ((ahW c e ts vs).st t) (abP kKn e.evs t) (abP kFn e.evs t) := cl0
  obtain ⟨c1,c2,c3⟩ := cl1
  have c4 : ∀ m,ts t = .fin m → (vs m).2 = .f t := fun m k =>la.c4 m t ht k
  obtain ⟨d1,d2,d3⟩ := hd
  have hS : ts t ≠ .fresh → Stt c e t = 4 := fun k =>d3 t ht.1 ht.2 (Int.not_le.1 fun j =>k (c2.2 j))
  revert c3 hS c4
  cases ts t with
  | fresh =>rintro ⟨_,a,b,d⟩ _ _; omega
  | alloc m =>rintro ⟨a,_⟩ _ k; have := k (fun j =>by cases j); omega
  | acc m =>rintro ⟨a,_⟩ _ k; have := k (fun j =>by cases j); omega
  | ready =>rintro ⟨a,_⟩ _ k; have := k (fun j =>by cases j); omega
  | run m =>rintro ⟨a,_⟩ _ k; have := k (fun j =>by cases j); omega
  | bm m =>rintro ⟨a,_⟩ _ k; have := k (fun j =>by cases j); omega
  | wait u =>rintro ⟨a,_⟩ _ k; have := k (fun j =>by cases j); omega
  | fin m =>
   rintro _ k _
   exfalso
   have hf := k m rfl
   rcases Nat.lt_trichotomy m ws.length with hm | hm | hm
   ·obtain ⟨kk,hw,_,_,_,hv⟩ := h2 m ws[m] (List.getElem?_eq_getElem hm)
    have h7 := d2 ws[m] (List.getElem_mem hm)
    rw [hw] at h7
    rw [← hv] at hf
    obtain ⟨a,b,d,x,g⟩ := kk
    cases g with
    | t7 s =>exact h7 rfl
    | _ =>cases hf
   ·subst hm
    obtain ⟨kk,_,_,hv⟩ := h3
    rw [← hv] at hf
    obtain ⟨a,b,d,g⟩ := kk
    cases g <;> cases hf
   ·rw [h4 m hm] at hf; cases hf
  | fg m =>rintro ⟨_,_,b,d,_⟩ _ _; omega
  | done =>rintro ⟨_,_,b,d,_⟩ _ _; omega
theorem aDb (hd : DecOk c) (h : JL2 c N e ws cl) : cE kSn e.evs ≤ cE kKn e.evs ∧ cE kFn e.evs ≤ cE kSn e.evs ∧ (cE kKn e.evs : Int) ≤ c.tasks ∧ (asZ c e ws cl → cE kFn e.evs = cE kKn e.evs) := by
 obtain ⟨h1,h2,h3⟩ := aBr h
 have ht := hd.t
 have ok : ∀ t : Int,(0 ≤ t ∧ t < (c.tasks.toNat : Nat)) ↔ TOk c t := fun t =>by unfold TOk; omega
 rw [aw3 (n := c.tasks.toNat) (p := kSn) fun t k =>(h1 t fun j =>k ((ok t).2 j)).2.1,aw3 (n := c.tasks.toNat) (p := kKn) fun t k =>(h1 t fun j =>k ((ok t).2 j)).1,aw3 (n := c.tasks.toNat) (p := kFn) fun t k =>(h1 t fun j =>k ((ok t).2 j)).2.2]
 refine ⟨aml fun t a b =>(h2 t ((ok t).1 ⟨a,b⟩)).2.1,aml fun t a b =>(h2 t ((ok t).1 ⟨a,b⟩)).2.2,?_,fun hD =>?_⟩
 ·have := aml (f := abP kKn e.evs) (g := fun _ =>1) (n := c.tasks.toNat) fun t a b =>(h2 t ((ok t).1 ⟨a,b⟩)).1
  rw [avQ] at this
  omega
 ·have a1 := aml (f := abP kFn e.evs) (g := abP kKn e.evs) (n := c.tasks.toNat) fun t a b =>by rw [h3 hD t ((ok t).1 ⟨a,b⟩)]; exact Nat.le_refl _
  have a2 := aml (f := abP kKn e.evs) (g := abP kFn e.evs) (n := c.tasks.toNat) fun t a b =>by rw [h3 hD t ((ok t).1 ⟨a,b⟩)]; exact Nat.le_refl _
  omega
end
theorem aHz {c : Cfg} {I : Nat → EnvP → List (WorkerV MV) → ClientV MV → Prop} (hI : EngI c I) {N : Nat} {env : EnvP} {w0 : WorkerV MV} {cl : ClientV MV} {eng : aov} {i : Int} {l : List EntV} (h : I N env [w0] cl) (hN : N ≤ 100000) :
  aaI (aoD l (i,env,w0,cl,eng,()) ((env.m.count,()),(env.m,()))) fun z =>I (N + 1) z.1 [z.2.1] z.2.2.1 ∧ z.2.2.2.1 = eng ∧ ∃ l,z.1.evs = env.evs ++ l := by
 unfold aoD
 refine aaI.ite (fun hk =>?_) fun hk =>aaI.ite (fun _ =>?_) fun _ =>aaI.ite (fun _ =>?_) fun _ =>?_
 ·refine (alE (n := 2) (by decide) hk).bind fun o ho =>?_
  refine aaI.ite (fun _ =>?_) fun n1 =>aaI.ite (fun _ =>?_) fun n0 =>?_
  ·exact (hI.c h hN).bind fun o ho =>.some_ ⟨ho.1,rfl,ho.2⟩
  ·exact (hI.w h hN (j := 0) rfl).bind fun o ho =>.some_ ⟨ho.1,rfl,ho.2⟩
  ·exfalso; have m0 : ¬ o.1.1 = ((0 : Nat) : Int) := n0; have m1 : ¬ o.1.1 = ((1 : Nat) : Int) := n1; omega
 ·exact ⟨_,rfl,hI.n (hI.k h),rfl,[],by simp⟩
 ·exact ⟨_,rfl,hI.n (hI.k h),rfl,[],by simp⟩
 ·exact ⟨_,rfl,hI.n h,rfl,[],by simp⟩
theorem aHv {c : Cfg} {I : Nat → EnvP → List (WorkerV MV) → ClientV MV → Prop} (hI : EngI c I) {N : Nat} {env : EnvP} {w0 : WorkerV MV} {cl : ClientV MV} {eng : aov} {l : List EntV} (h : I N env [w0] cl) (hg : EG N env eng) (hN : N + l.length ≤ 100000) :
  aaI (lpF (aoH l) 18446744073709551616 (0,env,w0,cl,eng,())) fun z =>I (N + l.length) z.2.1 [z.2.2.1] z.2.2.2.1 ∧ EG (N + l.length) z.2.1 z.2.2.2.2.1 ∧ ∃ m,z.2.1.evs = env.evs ++ m := by
 refine acr (fun x =>0 ≤ x.1 ∧ x.1 ≤ (l.length : Int) ∧ I (N + x.1.toNat) x.2.1 [x.2.2.1] x.2.2.2.1 ∧ EG (N + x.1.toNat) x.2.1 x.2.2.2.2.1 ∧ ∃ m,x.2.1.evs = env.evs ++ m) (fun x =>(l.length : Int).toNat - x.1.toNat) (fun self x hx ih =>?_) _ _ ?init (by show (l.length : Int).toNat - 0 < _; omega)
 case init =>exact ⟨Int.le_refl 0,by show (0 : Int) ≤ _; omega,h,hg,[],by simp⟩
 obtain ⟨i,en2,w0,cl,eng,⟨⟩⟩ := x
 obtain ⟨q1,q2,h,hg,m0,hm⟩ := hx
 simp only at q1 q2 h hg hm
 unfold aoH
 refine aaI.ite (fun hlt =>?_) fun hge =>.some_ ?iend
 case iend =>
  have hge : ¬ i < (l.length : Int) := hge
  have : i.toNat = l.length := by omega
  rw [this] at h hg
  exact ⟨h,hg,m0,hm⟩
 have hlt : i < (l.length : Int) := hlt
 refine aaI.guard ⟨q1,hlt⟩ fun _ =>?_
 rw [alY,bnd]
 refine (aHz hI (i := i) (l := l) (eng := eng) h (by omega)).bind fun z hz =>?_
 obtain ⟨ze,z0,zc,zg,⟨⟩⟩ := z
 obtain ⟨a3,ag,m1,hm1⟩ := hz
 simp only at a3 ag hm1
 subst ag
 have hev := hI.ev a3
 refine avM hg ⟨m1,hm1⟩ (by show ze.evs.length ≤ _; omega) (by omega) fun eng2 he =>?_
 have ei : wi (i + 1) = i + 1 := aaF (aan (by omega))
 have en : N + i.toNat + 1 = N + (i + 1).toNat := by omega
 rw [en] at a3 he
 show aaI (self (wi (i + 1),ze,z0,zc,_,())) _
 rw [ei]
 exact ih _ ⟨by show 0 ≤ i + 1; omega,by show i + 1 ≤ _; omega,a3,he,m0 ++ m1,by show ze.evs = _; rw [hm1,hm,List.append_assoc]⟩ (by show _ - (i + 1).toNat < _ - i.toNat; omega)
theorem aHE {c : Cfg} {env : EnvP} {w0 : WorkerV MV} {cl : ClientV MV} (h : MI c env) (hn : (env.m.cells.length : Int) = aaM c) : ∃ b : Bool,(∀ {α : Type} (K : Bool → EnvP → WorkerV MV → ClientV MV → Option α),at8 env w0 cl K = K b env w0 cl) ∧ (b = true ↔ asZ c env [w0] cl) := by
 obtain ⟨s,e1,h1⟩ := awT cl
 obtain ⟨s0,f0,g0⟩ := aki w0
 by_cases hs : s = 4
 ·by_cases k0 : s0 = 2
  ·refine ⟨false,fun K =>?_,fun k =>(by cases k),fun k =>absurd (g0.1 k0) (k.2.1 w0 (by simp))⟩
   unfold at8
   rw [e1,bnd,if_neg (fun k =>k hs),f0,bnd,if_pos k0]
  ·obtain ⟨b,d1,d2⟩ := awQ h.d hn
   have d3 : ∀ {α : Type} (K : Bool → MemV → Option α),asv env.l env.c.tasks env.m K = K b env.m := by rw [h.l,h.cc]; exact d1
   refine ⟨b,fun K =>?_,fun k =>⟨h1.1 hs,fun w hw =>?_,d2.1 k⟩,fun k =>d2.2 k.2.2⟩
   ·unfold at8
    rw [e1,bnd,if_neg (fun k =>k hs),f0,bnd,if_neg k0,aB4]
    exact d3 _
   ·simp only [List.mem_cons,List.not_mem_nil,or_false] at hw
    subst hw
    exact fun k =>k0 (g0.2 k)
 ·refine ⟨false,fun K =>?_,fun k =>(by cases k),fun k =>absurd (h1.2 k.1) hs⟩
  unfold at8
  rw [e1,bnd,if_pos hs]
theorem aHy {c : Cfg} {I : Nat → EnvP → List (WorkerV MV) → ClientV MV → Prop} (hI : EngI c I) {N : Nat} {env : EnvP} {w0 w1 : WorkerV MV} {cl : ClientV MV} {eng : aov} {i : Int} {l : List EntV} (h : I N env [w0,w1] cl) (hN : N ≤ 100000) :
  aaI (aoC l (i,env,w0,w1,cl,eng,()) ((env.m.count,()),(env.m,()))) fun z =>I (N + 1) z.1 [z.2.1,z.2.2.1] z.2.2.2.1 ∧ z.2.2.2.2.1 = eng ∧ ∃ l,z.1.evs = env.evs ++ l := by
 unfold aoC
 refine aaI.ite (fun hk =>?_) fun hk =>aaI.ite (fun _ =>?_) fun _ =>aaI.ite (fun _ =>?_) fun _ =>?_
 ·refine (alE (n := 3) (by decide) hk).bind fun o ho =>?_
  refine aaI.ite (fun _ =>?_) fun n2 =>aaI.ite (fun _ =>?_) fun n1 =>aaI.ite (fun _ =>?_) fun n0 =>?_
  ·exact (hI.c h hN).bind fun o ho =>.some_ ⟨ho.1,rfl,ho.2⟩
  ·exact (hI.w h hN (j := 1) rfl).bind fun o ho =>.some_ ⟨ho.1,rfl,ho.2⟩
  ·exact (hI.w h hN (j := 0) rfl).bind fun o ho =>.some_ ⟨ho.1,rfl,ho.2⟩
  ·exfalso; have m0 : ¬ o.1.1 = ((0 : Nat) : Int) := n0; have m1 : ¬ o.1.1 = ((1 : Nat) : Int) := n1; have m2 : ¬ o.1.1 = ((2 : Nat) : Int) := n2; omega
 ·exact ⟨_,rfl,hI.n (hI.k h),rfl,[],by simp⟩
 ·exact ⟨_,rfl,hI.n (hI.k h),rfl,[],by simp⟩
 ·exact ⟨_,rfl,hI.n h,rfl,[],by simp⟩
theorem aHu {c : Cfg} {I : Nat → EnvP → List (WorkerV MV) → ClientV MV → Prop} (hI : EngI c I) {N : Nat} {env : EnvP} {w0 w1 : WorkerV MV} {cl : ClientV MV} {eng : aov} {l : List EntV} (h : I N env [w0,w1] cl) (hg : EG N env eng) (hN : N + l.length ≤ 100000) :
  aaI (lpF (aoG l) 18446744073709551616 (0,env,w0,w1,cl,eng,())) fun z =>I (N + l.length) z.2.1 [z.2.2.1,z.2.2.2.1] z.2.2.2.2.1 ∧ EG (N + l.length) z.2.1 z.2.2.2.2.2.1 ∧ ∃ m,z.2.1.evs = env.evs ++ m := by
 refine acr (fun x =>0 ≤ x.1 ∧ x.1 ≤ (l.length : Int) ∧ I (N + x.1.toNat) x.2.1 [x.2.2.1,x.2.2.2.1] x.2.2.2.2.1 ∧ EG (N + x.1.toNat) x.2.1 x.2.2.2.2.2.1 ∧ ∃ m,x.2.1.evs = env.evs ++ m) (fun x =>(l.length : Int).toNat - x.1.toNat) (fun self x hx ih =>?_) _ _ ?init (by show (l.length : Int).toNat - 0 < _; omega)
 case init =>exact ⟨Int.le_refl 0,by show (0 : Int) ≤ _; omega,h,hg,[],by simp⟩
 obtain ⟨i,en2,w0,w1,cl,eng,⟨⟩⟩ := x
 obtain ⟨q1,q2,h,hg,m0,hm⟩ := hx
 simp only at q1 q2 h hg hm
 unfold aoG
 refine aaI.ite (fun hlt =>?_) fun hge =>.some_ ?iend
 case iend =>
  have hge : ¬ i < (l.length : Int) := hge
  have : i.toNat = l.length := by omega
  rw [this] at h hg
  exact ⟨h,hg,m0,hm⟩
 have hlt : i < (l.length : Int) := hlt
 refine aaI.guard ⟨q1,hlt⟩ fun _ =>?_
 rw [alY,bnd]
 refine (aHy hI (i := i) (l := l) (eng := eng) h (by omega)).bind fun z hz =>?_
 obtain ⟨ze,z0,z1,zc,zg,⟨⟩⟩ := z
 obtain ⟨a3,ag,m1,hm1⟩ := hz
 simp only at a3 ag hm1
 subst ag
 have hev := hI.ev a3
 refine avM hg ⟨m1,hm1⟩ (by show ze.evs.length ≤ _; omega) (by omega) fun eng2 he =>?_
 have ei : wi (i + 1) = i + 1 := aaF (aan (by omega))
 have en : N + i.toNat + 1 = N + (i + 1).toNat := by omega
 rw [en] at a3 he
 show aaI (self (wi (i + 1),ze,z0,z1,zc,_,())) _
 rw [ei]
 exact ih _ ⟨by show 0 ≤ i + 1; omega,by show i + 1 ≤ _; omega,a3,he,m0 ++ m1,by show ze.evs = _; rw [hm1,hm,List.append_assoc]⟩ (by show _ - (i + 1).toNat < _ - i.toNat; omega)
theorem aHD {c : Cfg} {env : EnvP} {w0 w1 : WorkerV MV} {cl : ClientV MV} (h : MI c env) (hn : (env.m.cells.length : Int) = aaM c) : ∃ b : Bool,(∀ {α : Type} (K : Bool → EnvP → WorkerV MV → WorkerV MV → ClientV MV → Option α),aqW env w0 w1 cl K = K b env w0 w1 cl) ∧ (b = true ↔ asZ c env [w0,w1] cl) := by
 obtain ⟨s,e1,h1⟩ := awT cl
 obtain ⟨s0,f0,g0⟩ := aki w0
 obtain ⟨s1,f1,g1⟩ := aki w1
 by_cases hs : s = 4
 ·by_cases k0 : s0 = 2
  ·refine ⟨false,fun K =>?_,fun k =>(by cases k),fun k =>absurd (g0.1 k0) (k.2.1 w0 (by simp))⟩
   unfold aqW
   rw [e1,bnd,if_neg (fun k =>k hs),f0,bnd,if_pos k0]
  ·by_cases k1 : s1 = 2
   ·refine ⟨false,fun K =>?_,fun k =>(by cases k),fun k =>absurd (g1.1 k1) (k.2.1 w1 (by simp))⟩
    unfold aqW
    rw [e1,bnd,if_neg (fun k =>k hs),f0,bnd,if_neg k0,f1,bnd,if_pos k1]
   ·obtain ⟨b,d1,d2⟩ := awQ h.d hn
    have d3 : ∀ {α : Type} (K : Bool → MemV → Option α),asv env.l env.c.tasks env.m K = K b env.m := by rw [h.l,h.cc]; exact d1
    refine ⟨b,fun K =>?_,fun k =>⟨h1.1 hs,fun w hw =>?_,d2.1 k⟩,fun k =>d2.2 k.2.2⟩
    ·unfold aqW
     rw [e1,bnd,if_neg (fun k =>k hs),f0,bnd,if_neg k0,f1,bnd,if_neg k1,aB4]
     exact d3 _
    ·simp only [List.mem_cons,List.not_mem_nil,or_false] at hw
     rcases hw with rfl | rfl
     ·exact fun k =>k0 (g0.2 k)
     ·exact fun k =>k1 (g1.2 k)
 ·refine ⟨false,fun K =>?_,fun k =>(by cases k),fun k =>absurd (h1.2 k.1) hs⟩
  unfold aqW
  rw [e1,bnd,if_pos hs]
theorem aHx {c : Cfg} {I : Nat → EnvP → List (WorkerV MV) → ClientV MV → Prop} (hI : EngI c I) {N : Nat} {env : EnvP} {w0 w1 w2 : WorkerV MV} {cl : ClientV MV} {eng : aov} {i : Int} {l : List EntV} (h : I N env [w0,w1,w2] cl) (hN : N ≤ 100000) :
  aaI (aoB l (i,env,w0,w1,w2,cl,eng,()) ((env.m.count,()),(env.m,()))) fun z =>I (N + 1) z.1 [z.2.1,z.2.2.1,z.2.2.2.1] z.2.2.2.2.1 ∧ z.2.2.2.2.2.1 = eng ∧ ∃ l,z.1.evs = env.evs ++ l := by
 unfold aoB
 refine aaI.ite (fun hk =>?_) fun hk =>aaI.ite (fun _ =>?_) fun _ =>aaI.ite (fun _ =>?_) fun _ =>?_
 ·refine (alE (n := 4) (by decide) hk).bind fun o ho =>?_
  refine aaI.ite (fun _ =>?_) fun n3 =>aaI.ite (fun _ =>?_) fun n2 =>aaI.ite (fun _ =>?_) fun n1 =>aaI.ite (fun _ =>?_) fun n0 =>?_
  ·exact (hI.c h hN).bind fun o ho =>.some_ ⟨ho.1,rfl,ho.2⟩
  ·exact (hI.w h hN (j := 2) rfl).bind fun o ho =>.some_ ⟨ho.1,rfl,ho.2⟩
  ·exact (hI.w h hN (j := 1) rfl).bind fun o ho =>.some_ ⟨ho.1,rfl,ho.2⟩
  ·exact (hI.w h hN (j := 0) rfl).bind fun o ho =>.some_ ⟨ho.1,rfl,ho.2⟩
  ·exfalso; have m0 : ¬ o.1.1 = ((0 : Nat) : Int) := n0; have m1 : ¬ o.1.1 = ((1 : Nat) : Int) := n1; have m2 : ¬ o.1.1 = ((2 : Nat) : Int) := n2; have m3 : ¬ o.1.1 = ((3 : Nat) : Int) := n3; omega
 ·exact ⟨_,rfl,hI.n (hI.k h),rfl,[],by simp⟩
 ·exact ⟨_,rfl,hI.n (hI.k h),rfl,[],by simp⟩
 ·exact ⟨_,rfl,hI.n h,rfl,[],by simp⟩
theorem aHt {c : Cfg} {I : Nat → EnvP → List (WorkerV MV) → ClientV MV → Prop} (hI : EngI c I) {N : Nat} {env : EnvP} {w0 w1 w2 : WorkerV MV} {cl : ClientV MV} {eng : aov} {l : List EntV} (h : I N env [w0,w1,w2] cl) (hg : EG N env eng) (hN : N + l.length ≤ 100000) :
  aaI (lpF (aoF l) 18446744073709551616 (0,env,w0,w1,w2,cl,eng,())) fun z =>I (N + l.length) z.2.1 [z.2.2.1,z.2.2.2.1,z.2.2.2.2.1] z.2.2.2.2.2.1 ∧ EG (N + l.length) z.2.1 z.2.2.2.2.2.2.1 ∧ ∃ m,z.2.1.evs = env.evs ++ m := by
 refine acr (fun x =>0 ≤ x.1 ∧ x.1 ≤ (l.length : Int) ∧ I (N + x.1.toNat) x.2.1 [x.2.2.1,x.2.2.2.1,x.2.2.2.2.1] x.2.2.2.2.2.1 ∧ EG (N + x.1.toNat) x.2.1 x.2.2.2.2.2.2.1 ∧ ∃ m,x.2.1.evs = env.evs ++ m) (fun x =>(l.length : Int).toNat - x.1.toNat) (fun self x hx ih =>?_) _ _ ?init (by show (l.length : Int).toNat - 0 < _; omega)
 case init =>exact ⟨Int.le_refl 0,by show (0 : Int) ≤ _; omega,h,hg,[],by simp⟩
 obtain ⟨i,en2,w0,w1,w2,cl,eng,⟨⟩⟩ := x
 obtain ⟨q1,q2,h,hg,m0,hm⟩ := hx
 simp only at q1 q2 h hg hm
 unfold aoF
 refine aaI.ite (fun hlt =>?_) fun hge =>.some_ ?iend
 case iend =>
  have hge : ¬ i < (l.length : Int) := hge
  have : i.toNat = l.length := by omega
  rw [this] at h hg
  exact ⟨h,hg,m0,hm⟩
 have hlt : i < (l.length : Int) := hlt
 refine aaI.guard ⟨q1,hlt⟩ fun _ =>?_
 rw [alY,bnd]
 refine (aHx hI (i := i) (l := l) (eng := eng) h (by omega)).bind fun z hz =>?_
 obtain ⟨ze,z0,z1,z2,zc,zg,⟨⟩⟩ := z
 obtain ⟨a3,ag,m1,hm1⟩ := hz
 simp only at a3 ag hm1
 subst ag
 have hev := hI.ev a3
 refine avM hg ⟨m1,hm1⟩ (by show ze.evs.length ≤ _; omega) (by omega) fun eng2 he =>?_
 have ei : wi (i + 1) = i + 1 := aaF (aan (by omega))
 have en : N + i.toNat + 1 = N + (i + 1).toNat := by omega
 rw [en] at a3 he
 show aaI (self (wi (i + 1),ze,z0,z1,z2,zc,_,())) _
 rw [ei]
 exact ih _ ⟨by show 0 ≤ i + 1; omega,by show i + 1 ≤ _; omega,a3,he,m0 ++ m1,by show ze.evs = _; rw [hm1,hm,List.append_assoc]⟩ (by show _ - (i + 1).toNat < _ - i.toNat; omega)
theorem aHC {c : Cfg} {env : EnvP} {w0 w1 w2 : WorkerV MV} {cl : ClientV MV} (h : MI c env) (hn : (env.m.cells.length : Int) = aaM c) : ∃ b : Bool,(∀ {α : Type} (K : Bool → EnvP → WorkerV MV → WorkerV MV → WorkerV MV → ClientV MV → Option α),apS env w0 w1 w2 cl K = K b env w0 w1 w2 cl) ∧ (b = true ↔ asZ c env [w0,w1,w2] cl) := by
 obtain ⟨s,e1,h1⟩ := awT cl
 obtain ⟨s0,f0,g0⟩ := aki w0
 obtain ⟨s1,f1,g1⟩ := aki w1
 obtain ⟨s2,f2,g2⟩ := aki w2
 by_cases hs : s = 4
 ·by_cases k0 : s0 = 2
  ·refine ⟨false,fun K =>?_,fun k =>(by cases k),fun k =>absurd (g0.1 k0) (k.2.1 w0 (by simp))⟩
   unfold apS
   rw [e1,bnd,if_neg (fun k =>k hs),f0,bnd,if_pos k0]
  ·by_cases k1 : s1 = 2
   ·refine ⟨false,fun K =>?_,fun k =>(by cases k),fun k =>absurd (g1.1 k1) (k.2.1 w1 (by simp))⟩
    unfold apS
    rw [e1,bnd,if_neg (fun k =>k hs),f0,bnd,if_neg k0,f1,bnd,if_pos k1]
   ·by_cases k2 : s2 = 2
    ·refine ⟨false,fun K =>?_,fun k =>(by cases k),fun k =>absurd (g2.1 k2) (k.2.1 w2 (by simp))⟩
     unfold apS
     rw [e1,bnd,if_neg (fun k =>k hs),f0,bnd,if_neg k0,f1,bnd,if_neg k1,f2,bnd,if_pos k2]
    ·obtain ⟨b,d1,d2⟩ := awQ h.d hn
     have d3 : ∀ {α : Type} (K : Bool → MemV → Option α),asv env.l env.c.tasks env.m K = K b env.m := by rw [h.l,h.cc]; exact d1
     refine ⟨b,fun K =>?_,fun k =>⟨h1.1 hs,fun w hw =>?_,d2.1 k⟩,fun k =>d2.2 k.2.2⟩
     ·unfold apS
      rw [e1,bnd,if_neg (fun k =>k hs),f0,bnd,if_neg k0,f1,bnd,if_neg k1,f2,bnd,if_neg k2,aB4]
      exact d3 _
     ·simp only [List.mem_cons,List.not_mem_nil,or_false] at hw
      rcases hw with rfl | rfl | rfl
      ·exact fun k =>k0 (g0.2 k)
      ·exact fun k =>k1 (g1.2 k)
      ·exact fun k =>k2 (g2.2 k)
 ·refine ⟨false,fun K =>?_,fun k =>(by cases k),fun k =>absurd (h1.2 k.1) hs⟩
  unfold apS
  rw [e1,bnd,if_pos hs]
theorem aHw {c : Cfg} {I : Nat → EnvP → List (WorkerV MV) → ClientV MV → Prop} (hI : EngI c I) {N : Nat} {env : EnvP} {w0 w1 w2 w3 : WorkerV MV} {cl : ClientV MV} {eng : aov} {i : Int} {l : List EntV} (h : I N env [w0,w1,w2,w3] cl) (hN : N ≤ 100000) :
  aaI (aoA l (i,env,w0,w1,w2,w3,cl,eng,()) ((env.m.count,()),(env.m,()))) fun z =>I (N + 1) z.1 [z.2.1,z.2.2.1,z.2.2.2.1,z.2.2.2.2.1] z.2.2.2.2.2.1 ∧ z.2.2.2.2.2.2.1 = eng ∧ ∃ l,z.1.evs = env.evs ++ l := by
 unfold aoA
 refine aaI.ite (fun hk =>?_) fun hk =>aaI.ite (fun _ =>?_) fun _ =>aaI.ite (fun _ =>?_) fun _ =>?_
 ·refine (alE (n := 5) (by decide) hk).bind fun o ho =>?_
  refine aaI.ite (fun _ =>?_) fun n4 =>aaI.ite (fun _ =>?_) fun n3 =>aaI.ite (fun _ =>?_) fun n2 =>aaI.ite (fun _ =>?_) fun n1 =>aaI.ite (fun _ =>?_) fun n0 =>?_
  ·exact (hI.c h hN).bind fun o ho =>.some_ ⟨ho.1,rfl,ho.2⟩
  ·exact (hI.w h hN (j := 3) rfl).bind fun o ho =>.some_ ⟨ho.1,rfl,ho.2⟩
  ·exact (hI.w h hN (j := 2) rfl).bind fun o ho =>.some_ ⟨ho.1,rfl,ho.2⟩
  ·exact (hI.w h hN (j := 1) rfl).bind fun o ho =>.some_ ⟨ho.1,rfl,ho.2⟩
  ·exact (hI.w h hN (j := 0) rfl).bind fun o ho =>.some_ ⟨ho.1,rfl,ho.2⟩
  ·exfalso; have m0 : ¬ o.1.1 = ((0 : Nat) : Int) := n0; have m1 : ¬ o.1.1 = ((1 : Nat) : Int) := n1; have m2 : ¬ o.1.1 = ((2 : Nat) : Int) := n2; have m3 : ¬ o.1.1 = ((3 : Nat) : Int) := n3; have m4 : ¬ o.1.1 = ((4 : Nat) : Int) := n4; omega
 ·exact ⟨_,rfl,hI.n (hI.k h),rfl,[],by simp⟩
 ·exact ⟨_,rfl,hI.n (hI.k h),rfl,[],by simp⟩
 ·exact ⟨_,rfl,hI.n h,rfl,[],by simp⟩
theorem aHs {c : Cfg} {I : Nat → EnvP → List (WorkerV MV) → ClientV MV → Prop} (hI : EngI c I) {N : Nat} {env : EnvP} {w0 w1 w2 w3 : WorkerV MV} {cl : ClientV MV} {eng : aov} {l : List EntV} (h : I N env [w0,w1,w2,w3] cl) (hg : EG N env eng) (hN : N + l.length ≤ 100000) :
  aaI (lpF (aoE l) 18446744073709551616 (0,env,w0,w1,w2,w3,cl,eng,())) fun z =>I (N + l.length) z.2.1 [z.2.2.1,z.2.2.2.1,z.2.2.2.2.1,z.2.2.2.2.2.1] z.2.2.2.2.2.2.1 ∧ EG (N + l.length) z.2.1 z.2.2.2.2.2.2.2.1 ∧ ∃ m,z.2.1.evs = env.evs ++ m := by
 refine acr (fun x =>0 ≤ x.1 ∧ x.1 ≤ (l.length : Int) ∧ I (N + x.1.toNat) x.2.1 [x.2.2.1,x.2.2.2.1,x.2.2.2.2.1,x.2.2.2.2.2.1] x.2.2.2.2.2.2.1 ∧ EG (N + x.1.toNat) x.2.1 x.2.2.2.2.2.2.2.1 ∧ ∃ m,x.2.1.evs = env.evs ++ m) (fun x =>(l.length : Int).toNat - x.1.toNat) (fun self x hx ih =>?_) _ _ ?init (by show (l.length : Int).toNat - 0 < _; omega)
 case init =>exact ⟨Int.le_refl 0,by show (0 : Int) ≤ _; omega,h,hg,[],by simp⟩
 obtain ⟨i,en2,w0,w1,w2,w3,cl,eng,⟨⟩⟩ := x
 obtain ⟨q1,q2,h,hg,m0,hm⟩ := hx
 simp only at q1 q2 h hg hm
 unfold aoE
 refine aaI.ite (fun hlt =>?_) fun hge =>.some_ ?iend
 case iend =>
  have hge : ¬ i < (l.length : Int) := hge
  have : i.toNat = l.length := by omega
  rw [this] at h hg
  exact ⟨h,hg,m0,hm⟩
 have hlt : i < (l.length : Int) := hlt
 refine aaI.guard ⟨q1,hlt⟩ fun _ =>?_
 rw [alY,bnd]
 refine (aHw hI (i := i) (l := l) (eng := eng) h (by omega)).bind fun z hz =>?_
 obtain ⟨ze,z0,z1,z2,z3,zc,zg,⟨⟩⟩ := z
 obtain ⟨a3,ag,m1,hm1⟩ := hz
 simp only at a3 ag hm1
 subst ag
 have hev := hI.ev a3
 refine avM hg ⟨m1,hm1⟩ (by show ze.evs.length ≤ _; omega) (by omega) fun eng2 he =>?_
 have ei : wi (i + 1) = i + 1 := aaF (aan (by omega))
 have en : N + i.toNat + 1 = N + (i + 1).toNat := by omega
 rw [en] at a3 he
 show aaI (self (wi (i + 1),ze,z0,z1,z2,z3,zc,_,())) _
 rw [ei]
 exact ih _ ⟨by show 0 ≤ i + 1; omega,by show i + 1 ≤ _; omega,a3,he,m0 ++ m1,by show ze.evs = _; rw [hm1,hm,List.append_assoc]⟩ (by show _ - (i + 1).toNat < _ - i.toNat; omega)
theorem aHB {c : Cfg} {env : EnvP} {w0 w1 w2 w3 : WorkerV MV} {cl : ClientV MV} (h : MI c env) (hn : (env.m.cells.length : Int) = aaM c) : ∃ b : Bool,(∀ {α : Type} (K : Bool → EnvP → WorkerV MV → WorkerV MV → WorkerV MV → WorkerV MV → ClientV MV → Option α),anx env w0 w1 w2 w3 cl K = K b env w0 w1 w2 w3 cl) ∧ (b = true ↔ asZ c env [w0,w1,w2,w3] cl) := by
 obtain ⟨s,e1,h1⟩ := awT cl
 obtain ⟨s0,f0,g0⟩ := aki w0
 obtain ⟨s1,f1,g1⟩ := aki w1
 obtain ⟨s2,f2,g2⟩ := aki w2
 obtain ⟨s3,f3,g3⟩ := aki w3
 by_cases hs : s = 4
 ·by_cases k0 : s0 = 2
  ·refine ⟨false,fun K =>?_,fun k =>(by cases k),fun k =>absurd (g0.1 k0) (k.2.1 w0 (by simp))⟩
   unfold anx
   rw [e1,bnd,if_neg (fun k =>k hs),f0,bnd,if_pos k0]
  ·by_cases k1 : s1 = 2
   ·refine ⟨false,fun K =>?_,fun k =>(by cases k),fun k =>absurd (g1.1 k1) (k.2.1 w1 (by simp))⟩
    unfold anx
    rw [e1,bnd,if_neg (fun k =>k hs),f0,bnd,if_neg k0,f1,bnd,if_pos k1]
   ·by_cases k2 : s2 = 2
    ·refine ⟨false,fun K =>?_,fun k =>(by cases k),fun k =>absurd (g2.1 k2) (k.2.1 w2 (by simp))⟩
     unfold anx
     rw [e1,bnd,if_neg (fun k =>k hs),f0,bnd,if_neg k0,f1,bnd,if_neg k1,f2,bnd,if_pos k2]
    ·by_cases k3 : s3 = 2
     ·refine ⟨false,fun K =>?_,fun k =>(by cases k),fun k =>absurd (g3.1 k3) (k.2.1 w3 (by simp))⟩
      unfold anx
      rw [e1,bnd,if_neg (fun k =>k hs),f0,bnd,if_neg k0,f1,bnd,if_neg k1,f2,bnd,if_neg k2,f3,bnd,if_pos k3]
     ·obtain ⟨b,d1,d2⟩ := awQ h.d hn
      have d3 : ∀ {α : Type} (K : Bool → MemV → Option α),asv env.l env.c.tasks env.m K = K b env.m := by rw [h.l,h.cc]; exact d1
      refine ⟨b,fun K =>?_,fun k =>⟨h1.1 hs,fun w hw =>?_,d2.1 k⟩,fun k =>d2.2 k.2.2⟩
      ·unfold anx
       rw [e1,bnd,if_neg (fun k =>k hs),f0,bnd,if_neg k0,f1,bnd,if_neg k1,f2,bnd,if_neg k2,f3,bnd,if_neg k3,aB4]
       exact d3 _
      ·simp only [List.mem_cons,List.not_mem_nil,or_false] at hw
       rcases hw with rfl | rfl | rfl | rfl
       ·exact fun k =>k0 (g0.2 k)
       ·exact fun k =>k1 (g1.2 k)
       ·exact fun k =>k2 (g2.2 k)
       ·exact fun k =>k3 (g3.2 k)
 ·refine ⟨false,fun K =>?_,fun k =>(by cases k),fun k =>absurd (h1.2 k.1) hs⟩
  unfold anx
  rw [e1,bnd,if_pos hs]
noncomputable def aa6 (y0 : List Int) (y1 : List Int) (y2 : List Int) : Option ((Bool × Unit) × (Unit)) :=
 (apB y0 ([y2])).bind fun r1 =>
 if (!r1.1.1) = true then some ((true,()),())
 else
 if 800 < ((y1.length : Nat) : Int) then some ((true,()),())
 else
 (aga y0).bind fun r2 =>
 (abp r2.1.1).bind fun r3 =>
 (akI y1 400).bind fun r4 =>
 if (((r3.1.1.length + r4.1.1.length : Nat)) : Int) < 1000000000000 then
 (lpF (axo y2 r2.1.1) 18446744073709551616 (r3.1.1 ++ r4.1.1,0,())).bind fun s =>
 (aeN r2.1.1).bind fun r9 =>
 if r9.1.2.1 ≠ 0 then
 if r9.1.2.1 ≠ 0 then
 (aaA).bind fun r =>
 if (!r.1.1) = true then some ((false,()),()) else some ((false,()),())
 else
 (aaA).bind fun r =>
 if (!r.1.1) = true then some ((false,()),()) else some ((false,()),())
 else
 (agW r2.1.1).bind fun r12 =>
 if r2.1.1.workers = ((1 : Nat) : Int) then
 (adz 0).bind fun w0 =>
 (lpF (aoH s.1) 18446744073709551616 (0,r9.1.1,w0.1.1,r12.1.1,(0,[],0,0,0,0,()),())).bind fun z =>
 (aaA).bind fun r =>
 if (!r.1.1) = true then some ((false,()),())
 else
 (lpF (aFS z.2.1.evs) 18446744073709551616 (0,[],z.2.2.2.2.1,())).bind fun v =>
 axi r2.1.1 ((s.1.length : Nat) : Int) v.2.1 (fun f =>at8 z.2.1 z.2.2.1 z.2.2.2.1 fun b _ _ _ =>aFW r2.1.1 f b)
 else none
 else none
noncomputable abbrev afN : Con SR1 := ⟨5,[.sh (.ro 17),.sh (.ro 17),.sh (.ro 1)],[.sh .b],fun x =>aa6 x.1 x.2.1 x.2.2.1⟩
noncomputable def afn : List (Nat × Func) := [(11,Tryz.f11),(32,Tryz.f32),(64,Tryz.f64),(33,Tryz.f33),(65,Tryz.f65),(14,Tryz.f14),(26,Tryz.f26),(55,Tryz.f55),(78,Tryz.f78),(52,Tryz.f52),(56,Tryz.f56)]
theorem afo : CO Tryz.prog afN := aal aak Tryz.func5 [alQ,ahO,ab6,ajj,acm,afW,ab5,agV,agI,acE,adX,ac3,acV,adE,ad6,ac0,afv,acF,acR,aco,acn,amK,ad9] ⟨alP,ahN,acL,ajV,acU,agu,acK,ahe,ag4,adb,aeu,adx,adn,aeb,aez,adv,afU,acQ,adh,ac4,acW,als,adD,trivial⟩ afn ⟨Tryz.func11,Tryz.func32,Tryz.func64,Tryz.func33,Tryz.func65,Tryz.func14,Tryz.func26,Tryz.func55,Tryz.func78,Tryz.func52,Tryz.func56,trivial⟩ (fun f =>(get [(32,[(6,.spl 22 [1] 2)]),(64,[(2,.unroll 2)]),(33,[(1,.loop [.rg 8 sI_,.ob 24 27,.ob 38 31,.ob 26 30,.cx 27 [.inr (.ptr 24 0),.inr (.sl 40),.inr (.ptr 26 0),.inr (.sl 66),.inl sI_,.inl (.row 1),.inl sI_,.inl sI_,.inl sU_,.inl sU_]] 18446744073709551616 0)]),(65,[(9,.cut [.ob 24 27,.ob 38 31,.ob 26 30,.cx 27 [.inr (.ptr 24 0),.inr (.sl 40),.inr (.ptr 26 0),.inr (.sl 66),.inl sI_,.inl (.row 1),.inl sI_,.inl sI_,.inl sU_,.inl sU_]] [0,1,2,3,14,15,69,70,71]),(12,.loop [.ob 24 27,.cx 27 [.inr (.ptr 24 0),.inr (.sl 40),.inr (.ptr 26 0),.inr (.sl 66),.inl sI_,.inl (.row 1),.inl sI_,.inl sI_,.inl sU_,.inl sU_]] 18446744073709551616 1)]),(14,[(3,.loop [.rg 14 sI_,.rg 3 (.row 6),.cx 27 [.inr (.ptr 24 0),.inr (.sl 40),.inr (.ptr 26 0),.inr (.sl 66),.inl sI_,.inl (.row 1),.inl sI_,.inl sI_,.inl sU_,.inl sU_]] 18446744073709551616 0)]),(26,[(6,.loopR [.rg 6 sI_,.ob 128 9] 18446744073709551616 0)]),(78,[(2,.unroll 2)])] f).getD []) [(6,.loop [.rg 8 (.row 5),.rg 9 sI_] 18446744073709551616 0),(20,.loopR [.rg 18 sI_,.rg 19 sI_] 18446744073709551616 2)] fun x =>by kernel_rfl
noncomputable def abw (y0 : List Int) (y1 : List Int) (y2 : List Int) : Option ((Bool × Unit) × (Unit)) :=
 (apB y0 ([y2])).bind fun r1 =>
 if (!r1.1.1) = true then some ((true,()),())
 else
 if 800 < ((y1.length : Nat) : Int) then some ((true,()),())
 else
 (aga y0).bind fun r2 =>
 (abp r2.1.1).bind fun r3 =>
 (akI y1 400).bind fun r4 =>
 if (((r3.1.1.length + r4.1.1.length : Nat)) : Int) < 1000000000000 then
 (lpF (axo y2 r2.1.1) 18446744073709551616 (r3.1.1 ++ r4.1.1,0,())).bind fun s =>
 (aeN r2.1.1).bind fun r9 =>
 if r9.1.2.1 ≠ 0 then
 if r9.1.2.1 ≠ 0 then
 (aaA).bind fun r =>
 if (!r.1.1) = true then some ((false,()),()) else some ((false,()),())
 else
 (aaA).bind fun r =>
 if (!r.1.1) = true then some ((false,()),()) else some ((false,()),())
 else
 (agW r2.1.1).bind fun r12 =>
 if r2.1.1.workers = ((2 : Nat) : Int) then
 (adz 0).bind fun w0 =>
 (adz 1).bind fun w1 =>
 (lpF (aoG s.1) 18446744073709551616 (0,r9.1.1,w0.1.1,w1.1.1,r12.1.1,(0,[],0,0,0,0,()),())).bind fun z =>
 (aaA).bind fun r =>
 if (!r.1.1) = true then some ((false,()),())
 else
 (lpF (aFS z.2.1.evs) 18446744073709551616 (0,[],z.2.2.2.2.2.1,())).bind fun v =>
 axi r2.1.1 ((s.1.length : Nat) : Int) v.2.1 (fun f =>aqW z.2.1 z.2.2.1 z.2.2.2.1 z.2.2.2.2.1 fun b _ _ _ _ =>aFW r2.1.1 f b)
 else none
 else none
noncomputable abbrev afM : Con SR1 := ⟨5,[.sh (.ro 17),.sh (.ro 17),.sh (.ro 1)],[.sh .b],fun x =>abw x.1 x.2.1 x.2.2.1⟩
noncomputable def afl : List (Nat × Func) := [(11,Tryz.f11),(32,Tryz.f32),(64,Tryz.f64),(33,Tryz.f33),(65,Tryz.f65),(14,Tryz.f14),(26,Tryz.f26),(55,Tryz.f55),(78,Tryz.f78),(52,Tryz.f52),(56,Tryz.f56)]
theorem afm : CO Tryz.prog afM := aal aak Tryz.func5 [alQ,ahO,ab6,ajj,acm,afW,ab5,agV,agI,acE,adX,ac3,acV,adE,ad6,ac0,afv,acF,acR,aco,acn,amK,ad9] ⟨alP,ahN,acL,ajV,acU,agu,acK,ahe,ag4,adb,aeu,adx,adn,aeb,aez,adv,afU,acQ,adh,ac4,acW,als,adD,trivial⟩ afl ⟨Tryz.func11,Tryz.func32,Tryz.func64,Tryz.func33,Tryz.func65,Tryz.func14,Tryz.func26,Tryz.func55,Tryz.func78,Tryz.func52,Tryz.func56,trivial⟩ (fun f =>(get [(32,[(6,.spl 22 [2] 3)]),(64,[(2,.unroll 3)]),(33,[(1,.loop [.rg 8 sI_,.ob 24 27,.ob 38 31,.ob 52 31,.ob 26 30,.cx 27 [.inr (.ptr 24 0),.inr (.sl 54),.inr (.ptr 26 0),.inr (.sl 83),.inl sI_,.inl (.row 1),.inl sI_,.inl sI_,.inl sU_,.inl sU_]] 18446744073709551616 0)]),(65,[(9,.cut [.ob 24 27,.ob 38 31,.ob 52 31,.ob 26 30,.cx 27 [.inr (.ptr 24 0),.inr (.sl 54),.inr (.ptr 26 0),.inr (.sl 83),.inl sI_,.inl (.row 1),.inl sI_,.inl sI_,.inl sU_,.inl sU_]] [0,1,2,3,14,15,86,87,88]),(12,.loop [.ob 24 27,.cx 27 [.inr (.ptr 24 0),.inr (.sl 54),.inr (.ptr 26 0),.inr (.sl 83),.inl sI_,.inl (.row 1),.inl sI_,.inl sI_,.inl sU_,.inl sU_]] 18446744073709551616 1)]),(14,[(3,.loop [.rg 14 sI_,.rg 3 (.row 6),.cx 27 [.inr (.ptr 24 0),.inr (.sl 54),.inr (.ptr 26 0),.inr (.sl 83),.inl sI_,.inl (.row 1),.inl sI_,.inl sI_,.inl sU_,.inl sU_]] 18446744073709551616 0)]),(26,[(6,.loopR [.rg 6 sI_,.ob 146 9] 18446744073709551616 0)]),(78,[(2,.unroll 3)])] f).getD []) [(6,.loop [.rg 8 (.row 5),.rg 9 sI_] 18446744073709551616 0),(20,.loopR [.rg 18 sI_,.rg 19 sI_] 18446744073709551616 2)] fun x =>by kernel_rfl
noncomputable def abv (y0 : List Int) (y1 : List Int) (y2 : List Int) : Option ((Bool × Unit) × (Unit)) :=
 (apB y0 ([y2])).bind fun r1 =>
 if (!r1.1.1) = true then some ((true,()),())
 else
 if 800 < ((y1.length : Nat) : Int) then some ((true,()),())
 else
 (aga y0).bind fun r2 =>
 (abp r2.1.1).bind fun r3 =>
 (akI y1 400).bind fun r4 =>
 if (((r3.1.1.length + r4.1.1.length : Nat)) : Int) < 1000000000000 then
 (lpF (axo y2 r2.1.1) 18446744073709551616 (r3.1.1 ++ r4.1.1,0,())).bind fun s =>
 (aeN r2.1.1).bind fun r9 =>
 if r9.1.2.1 ≠ 0 then
 if r9.1.2.1 ≠ 0 then
 (aaA).bind fun r =>
 if (!r.1.1) = true then some ((false,()),()) else some ((false,()),())
 else
 (aaA).bind fun r =>
 if (!r.1.1) = true then some ((false,()),()) else some ((false,()),())
 else
 (agW r2.1.1).bind fun r12 =>
 if r2.1.1.workers = ((3 : Nat) : Int) then
 (adz 0).bind fun w0 =>
 (adz 1).bind fun w1 =>
 (adz 2).bind fun w2 =>
 (lpF (aoF s.1) 18446744073709551616 (0,r9.1.1,w0.1.1,w1.1.1,w2.1.1,r12.1.1,(0,[],0,0,0,0,()),())).bind fun z =>
 (aaA).bind fun r =>
 if (!r.1.1) = true then some ((false,()),())
 else
 (lpF (aFS z.2.1.evs) 18446744073709551616 (0,[],z.2.2.2.2.2.2.1,())).bind fun v =>
 axi r2.1.1 ((s.1.length : Nat) : Int) v.2.1 (fun f =>apS z.2.1 z.2.2.1 z.2.2.2.1 z.2.2.2.2.1 z.2.2.2.2.2.1 fun b _ _ _ _ _ =>aFW r2.1.1 f b)
 else none
 else none
noncomputable abbrev afL : Con SR1 := ⟨5,[.sh (.ro 17),.sh (.ro 17),.sh (.ro 1)],[.sh .b],fun x =>abv x.1 x.2.1 x.2.2.1⟩
noncomputable def afj : List (Nat × Func) := [(11,Tryz.f11),(32,Tryz.f32),(64,Tryz.f64),(33,Tryz.f33),(65,Tryz.f65),(14,Tryz.f14),(26,Tryz.f26),(55,Tryz.f55),(78,Tryz.f78),(52,Tryz.f52),(56,Tryz.f56)]
theorem afk : CO Tryz.prog afL := aal aak Tryz.func5 [alQ,ahO,ab6,ajj,acm,afW,ab5,agV,agI,acE,adX,ac3,acV,adE,ad6,ac0,afv,acF,acR,aco,acn,amK,ad9] ⟨alP,ahN,acL,ajV,acU,agu,acK,ahe,ag4,adb,aeu,adx,adn,aeb,aez,adv,afU,acQ,adh,ac4,acW,als,adD,trivial⟩ afj ⟨Tryz.func11,Tryz.func32,Tryz.func64,Tryz.func33,Tryz.func65,Tryz.func14,Tryz.func26,Tryz.func55,Tryz.func78,Tryz.func52,Tryz.func56,trivial⟩ (fun f =>(get [(32,[(6,.spl 22 [3] 4)]),(64,[(2,.unroll 4)]),(33,[(1,.loop [.rg 8 sI_,.ob 24 27,.ob 38 31,.ob 52 31,.ob 66 31,.ob 26 30,.cx 27 [.inr (.ptr 24 0),.inr (.sl 68),.inr (.ptr 26 0),.inr (.sl 100),.inl sI_,.inl (.row 1),.inl sI_,.inl sI_,.inl sU_,.inl sU_]] 18446744073709551616 0)]),(65,[(9,.cut [.ob 24 27,.ob 38 31,.ob 52 31,.ob 66 31,.ob 26 30,.cx 27 [.inr (.ptr 24 0),.inr (.sl 68),.inr (.ptr 26 0),.inr (.sl 100),.inl sI_,.inl (.row 1),.inl sI_,.inl sI_,.inl sU_,.inl sU_]] [0,1,2,3,14,15,103,104,105]),(12,.loop [.ob 24 27,.cx 27 [.inr (.ptr 24 0),.inr (.sl 68),.inr (.ptr 26 0),.inr (.sl 100),.inl sI_,.inl (.row 1),.inl sI_,.inl sI_,.inl sU_,.inl sU_]] 18446744073709551616 1)]),(14,[(3,.loop [.rg 14 sI_,.rg 3 (.row 6),.cx 27 [.inr (.ptr 24 0),.inr (.sl 68),.inr (.ptr 26 0),.inr (.sl 100),.inl sI_,.inl (.row 1),.inl sI_,.inl sI_,.inl sU_,.inl sU_]] 18446744073709551616 0)]),(26,[(6,.loopR [.rg 6 sI_,.ob 164 9] 18446744073709551616 0)]),(78,[(2,.unroll 4)])] f).getD []) [(6,.loop [.rg 8 (.row 5),.rg 9 sI_] 18446744073709551616 0),(20,.loopR [.rg 18 sI_,.rg 19 sI_] 18446744073709551616 2)] fun x =>by kernel_rfl
noncomputable def abu (y0 : List Int) (y1 : List Int) (y2 : List Int) : Option ((Bool × Unit) × (Unit)) :=
 (apB y0 ([y2])).bind fun r1 =>
 if (!r1.1.1) = true then some ((true,()),())
 else
 if 800 < ((y1.length : Nat) : Int) then some ((true,()),())
 else
 (aga y0).bind fun r2 =>
 (abp r2.1.1).bind fun r3 =>
 (akI y1 400).bind fun r4 =>
 if (((r3.1.1.length + r4.1.1.length : Nat)) : Int) < 1000000000000 then
 (lpF (axo y2 r2.1.1) 18446744073709551616 (r3.1.1 ++ r4.1.1,0,())).bind fun s =>
 (aeN r2.1.1).bind fun r9 =>
 if r9.1.2.1 ≠ 0 then
 if r9.1.2.1 ≠ 0 then
 (aaA).bind fun r =>
 if (!r.1.1) = true then some ((false,()),()) else some ((false,()),())
 else
 (aaA).bind fun r =>
 if (!r.1.1) = true then some ((false,()),()) else some ((false,()),())
 else
 (agW r2.1.1).bind fun r12 =>
 if r2.1.1.workers = ((4 : Nat) : Int) then
 (adz 0).bind fun w0 =>
 (adz 1).bind fun w1 =>
 (adz 2).bind fun w2 =>
 (adz 3).bind fun w3 =>
 (lpF (aoE s.1) 18446744073709551616 (0,r9.1.1,w0.1.1,w1.1.1,w2.1.1,w3.1.1,r12.1.1,(0,[],0,0,0,0,()),())).bind fun z =>
 (aaA).bind fun r =>
 if (!r.1.1) = true then some ((false,()),())
 else
 (lpF (aFS z.2.1.evs) 18446744073709551616 (0,[],z.2.2.2.2.2.2.2.1,())).bind fun v =>
 axi r2.1.1 ((s.1.length : Nat) : Int) v.2.1 (fun f =>anx z.2.1 z.2.2.1 z.2.2.2.1 z.2.2.2.2.1 z.2.2.2.2.2.1 z.2.2.2.2.2.2.1 fun b _ _ _ _ _ _ =>aFW r2.1.1 f b)
 else none
 else none
noncomputable abbrev afK : Con SR1 := ⟨5,[.sh (.ro 17),.sh (.ro 17),.sh (.ro 1)],[.sh .b],fun x =>abu x.1 x.2.1 x.2.2.1⟩
noncomputable def afh : List (Nat × Func) := [(11,Tryz.f11),(32,Tryz.f32),(64,Tryz.f64),(33,Tryz.f33),(65,Tryz.f65),(14,Tryz.f14),(26,Tryz.f26),(55,Tryz.f55),(78,Tryz.f78),(52,Tryz.f52),(56,Tryz.f56)]
theorem afi : CO Tryz.prog afK := aal aak Tryz.func5 [alQ,ahO,ab6,ajj,acm,afW,ab5,agV,agI,acE,adX,ac3,acV,adE,ad6,ac0,afv,acF,acR,aco,acn,amK,ad9] ⟨alP,ahN,acL,ajV,acU,agu,acK,ahe,ag4,adb,aeu,adx,adn,aeb,aez,adv,afU,acQ,adh,ac4,acW,als,adD,trivial⟩ afh ⟨Tryz.func11,Tryz.func32,Tryz.func64,Tryz.func33,Tryz.func65,Tryz.func14,Tryz.func26,Tryz.func55,Tryz.func78,Tryz.func52,Tryz.func56,trivial⟩ (fun f =>(get [(32,[(6,.spl 22 [4] 5)]),(64,[(2,.unroll 5)]),(33,[(1,.loop [.rg 8 sI_,.ob 24 27,.ob 38 31,.ob 52 31,.ob 66 31,.ob 80 31,.ob 26 30,.cx 27 [.inr (.ptr 24 0),.inr (.sl 82),.inr (.ptr 26 0),.inr (.sl 117),.inl sI_,.inl (.row 1),.inl sI_,.inl sI_,.inl sU_,.inl sU_]] 18446744073709551616 0)]),(65,[(9,.cut [.ob 24 27,.ob 38 31,.ob 52 31,.ob 66 31,.ob 80 31,.ob 26 30,.cx 27 [.inr (.ptr 24 0),.inr (.sl 82),.inr (.ptr 26 0),.inr (.sl 117),.inl sI_,.inl (.row 1),.inl sI_,.inl sI_,.inl sU_,.inl sU_]] [0,1,2,3,14,15,120,121,122]),(12,.loop [.ob 24 27,.cx 27 [.inr (.ptr 24 0),.inr (.sl 82),.inr (.ptr 26 0),.inr (.sl 117),.inl sI_,.inl (.row 1),.inl sI_,.inl sI_,.inl sU_,.inl sU_]] 18446744073709551616 1)]),(14,[(3,.loop [.rg 14 sI_,.rg 3 (.row 6),.cx 27 [.inr (.ptr 24 0),.inr (.sl 82),.inr (.ptr 26 0),.inr (.sl 117),.inl sI_,.inl (.row 1),.inl sI_,.inl sI_,.inl sU_,.inl sU_]] 18446744073709551616 0)]),(26,[(6,.loopR [.rg 6 sI_,.ob 182 9] 18446744073709551616 0)]),(78,[(2,.unroll 5)])] f).getD []) [(6,.loop [.rg 8 (.row 5),.rg 9 sI_] 18446744073709551616 0),(20,.loopR [.rg 18 sI_,.rg 19 sI_] 18446744073709551616 2)] fun x =>by kernel_rfl
theorem ajS {c : Cfg} (h : DecOk c) : aaI (abp c) fun o =>o.1.1.length ≤ 200 := by
 have hs := h.sn
 have e0 : wi (40 * ((c.subs.length : Nat) : Int)) = 40 * (c.subs.length : Int) := aaF (aan (by omega))
 unfold abp
 refine aaI.bind (P := fun z =>z.1.length ≤ 200) (acr (fun x =>0 ≤ x.2.1 ∧ (x.1.length : Int) ≤ x.2.1 ∧ x.2.1 ≤ 40 * (c.subs.length : Int)) (fun x =>(40 * (c.subs.length : Int) - x.2.1).toNat) (fun self x hx ih =>?istep) _ _ ⟨Int.le_refl 0,Int.le_refl 0,by show (0 : Int) ≤ _; omega⟩ (by show (_ - 0 : Int).toNat < _; omega)) fun z hz =>.some_ hz
 case istep =>
  obtain ⟨q0,q1,q2⟩ := hx
  have e1 : wi (x.2.1 + 1) = x.2.1 + 1 := aaF (aan (by omega))
  rw [e0,e1]
  refine aaI.ite (fun hlt =>?_) fun _ =>.some_ (by show x.1.length ≤ 200; omega)
  unfold ade
  rw [bnd]
  refine .guard (by simp only [List.length_singleton]; omega) fun _ =>ih _ ⟨by show 0 ≤ x.2.1 + 1; omega,?_,by show x.2.1 + 1 ≤ _; omega⟩ (by show (_ - (x.2.1 + 1) : Int).toNat < (_ - x.2.1 : Int).toNat; omega)
  show ((x.1 ++ [_]).length : Int) ≤ x.2.1 + 1
  rw [List.length_append,List.length_singleton]
  omega
theorem aoa {c : Cfg} (hd : DecOk c) {y : List Int} {l : List EntV} (hy : y.length ≤ 1000000) (hl : l.length ≤ 600) : aaI (lpF (axo y c) 18446744073709551616 (l,0,())) fun z =>z.1.length ≤ 12600 := by
 have hw := hd.w
 refine acr (fun x =>(0 ≤ x.2.1 ∧ x.2.1 ≤ 60) ∧ (x.1.length : Int) ≤ 600 + 200 * x.2.1) (fun x =>(60 - x.2.1).toNat) (fun self x hx ih =>?_) _ _ ⟨⟨Int.le_refl 0,by show (0 : Int) ≤ 60; omega⟩,by show (l.length : Int) ≤ 600 + 200 * 0; omega⟩ (by show (60 - 0 : Int).toNat < _; omega)
 obtain ⟨m,i,⟨⟩⟩ := x
 obtain ⟨⟨q0,q1⟩,q2⟩ := hx
 simp only at q0 q1 q2
 have fin : m.length ≤ 12600 := by omega
 have e1 : wi (5 * i) = 5 * i := aaF (aan (by omega))
 have e2 : wi (c.workers + 1) = c.workers + 1 := aaF (aan (by omega))
 have e3 : wi (i + 1) = i + 1 := aaF (aan (by omega))
 unfold axo
 refine aaI.ite (fun _ =>aaI.ite (fun hlt =>?_) fun _ =>.some_ fin) fun _ =>.some_ fin
 have hlt : i < 60 := hlt
 simp only
 rw [e1,e2,e3]
 refine (ayC hy (by omega) (by omega)).bind fun r hr =>.guard (by omega) fun _ =>?_
 refine ih _ ⟨⟨by show 0 ≤ i + 1; omega,by show i + 1 ≤ 60; omega⟩,?_⟩ (by show (60 - (i + 1) : Int).toNat < (60 - i : Int).toNat; omega)
 show ((m ++ r.1.1).length : Int) ≤ 600 + 200 * (i + 1)
 rw [List.length_append]
 omega
theorem ama : aaA = some ((true,()),()) := by kernel_rfl
theorem aaI.of_eqM {α : Type} {a b : Option α} {P : α → Prop} (h : a = b) (hb : aaI b P) : aaI a P := h ▸ hb
theorem aH5 {g : aov} {evs : List Ev} (h : g.2.1.length = evs.length) {i : Int} (h0 : 0 ≤ i) (h1 : i < ((List.zipWith stF g.2.1 evs).length : Int)) : ∃ (hi : i.toNat < evs.length) (hj : i.toNat < g.2.1.length),(abD (List.zipWith stF g.2.1 evs) i).ev = evs[i.toNat] ∧ (abD (List.zipWith stF g.2.1 evs) i).at_ = g.2.1[i.toNat] := by
 have hl : (List.zipWith stF g.2.1 evs).length = evs.length := by rw [List.length_zipWith,h]; omega
 have hi : i.toNat < (List.zipWith stF g.2.1 evs).length := by omega
 refine ⟨by omega,by omega,?_⟩
 have := aeI (α := St) (d := (dfR 6 : TR 6)) (xs := List.zipWith stF g.2.1 evs) (i := i) ⟨h0,h1⟩
 rw [List.getElem?_eq_getElem hi,List.getElem_zipWith] at this
 exact ⟨congrArg St.ev (Option.some.inj this).symm,congrArg St.at_ (Option.some.inj this).symm⟩
theorem aj5 {c : Cfg} (ho : DecOk c) {N : Nat} {e : EnvP} {ws : List (WorkerV MV)} {cl : ClientV MV} {g : aov} (a1 : JL2 c N e ws cl) (ak : KI c N e ws cl) (a2 : EG N e g) (hN : N ≤ 100000) :
  Ord (N : Int) (List.zipWith stF g.2.1 e.evs) ∧ (∀ i,0 ≤ i → i < ((List.zipWith stF g.2.1 e.evs).length : Int) → (abD (List.zipWith stF g.2.1 e.evs) i).ev.kind = 5 → 0 ≤ (abD (List.zipWith stF g.2.1 e.evs) i).ev.worker ∧ (abD (List.zipWith stF g.2.1 e.evs) i).ev.worker < c.workers) ∧
  cS 5 (List.zipWith stF g.2.1 e.evs) ≤ cS 1 (List.zipWith stF g.2.1 e.evs) + cS 3 (List.zipWith stF g.2.1 e.evs) ∧ cS 10 (List.zipWith stF g.2.1 e.evs) ≤ cS 5 (List.zipWith stF g.2.1 e.evs) ∧ cS 1 (List.zipWith stF g.2.1 e.evs) + cS 2 (List.zipWith stF g.2.1 e.evs) ≤ (c.subs.length : Int) ∧ cS 1 (List.zipWith stF g.2.1 e.evs) + cS 3 (List.zipWith stF g.2.1 e.evs) ≤ c.tasks ∧
  (asZ c e ws cl → cS 10 (List.zipWith stF g.2.1 e.evs) = cS 1 (List.zipWith stF g.2.1 e.evs) + cS 3 (List.zipWith stF g.2.1 e.evs) ∧ cS 1 (List.zipWith stF g.2.1 e.evs) + cS 2 (List.zipWith stF g.2.1 e.evs) = (c.subs.length : Int)) ∧ True := by
 have hev := aic.ev a1
 have hl : (List.zipWith stF g.2.1 e.evs).length = e.evs.length := by rw [List.length_zipWith,a2.l]; omega
 obtain ⟨k1,k2,k3⟩ := aHk ak
 obtain ⟨n1,n2,n3,n4⟩ := aDb ho a1
 have z1 := aq0 (k := 1) a2.l
 have z2 := aq0 (k := 2) a2.l
 have z3 := aq0 (k := 3) a2.l
 have z5 := aq0 (k := 5) a2.l
 have z10 := aq0 (k := 10) a2.l
 have o1 := aIM (l := e.evs)
 have o2 := aH1 (l := e.evs)
 have s5 : cE (fun j =>decide (j = 5)) e.evs = cE kSn e.evs := rfl
 have s10 : cE (fun j =>decide (j = 10)) e.evs = cE kFn e.evs := rfl
 have hcl : asZ c e ws cl → aqu e.evs = (c.subs.length : Int) := fun hD =>k2 hD.1
 refine ⟨⟨by omega,by omega,fun i h0 h1 =>?_,fun i j h0 h1 h2 =>?_⟩,fun i h0 h1 =>?_,by omega,by omega,by omega,by omega,fun hD =>?_,trivial⟩
 ·obtain ⟨hi,hj,_,e2⟩ := aH5 a2.l h0 h1
  rw [e2]
  have := a2.r _ (List.getElem_mem hj)
  omega
 ·obtain ⟨_,hi,_,e2⟩ := aH5 a2.l h0 (show i < _ by omega)
  obtain ⟨_,hj,_,e3⟩ := aH5 a2.l (show 0 ≤ j by omega) h2
  rw [e2,e3]
  by_cases hij : i = j
  ·subst hij; exact Int.le_refl _
  ·exact List.pairwise_iff_getElem.1 a2.s _ _ hi hj (by omega)
 ·obtain ⟨hi,_,e2,_⟩ := aH5 a2.l h0 h1
  rw [e2]
  exact k3 _ (List.getElem_mem hi)
 ·have d1 := n4 hD
  have d2 := hcl hD
  omega
theorem ast {c : Cfg} : EG 0 (akt c) (0,[],0,0,0,0,()) := ⟨rfl,rfl,fun s h =>(by cases h),.nil⟩
theorem axC {y0 y1 y2 : List Int} {o : (Cfg × Unit) × Unit} (e : aga y0 = some o) (ho : DecOk o.1.1) (hw : o.1.1.workers = (((1 : Nat) : Int))) : aaI (aa6 y0 y1 y2) fun r =>r.1.1 = true := by
 obtain ⟨⟨c,⟨⟩⟩,⟨⟩⟩ := o
 simp only at ho hw
 unfold aa6
 refine (ahy y0 [y2] (by simp)).bind fun r hr =>aaI.ite (fun _ =>.some_ rfl) fun hb =>aaI.ite (fun _ =>.some_ rfl) fun hlen =>?_
 have hy : y2.length ≤ 400 := (hr (by cases hq : r.1.1; exact absurd (by rw [hq]; rfl) hb; rfl)).2 y2 (by simp)
 rw [e,bnd]
 refine (ajS ho).bind fun r3 h3 =>?_
 refine (ajL (b := y1) (n := 400) (by omega) (by decide)).bind fun r4 h4 =>.guard (by have h3 : r3.1.1.length ≤ 200 := h3; have h4 : r4.1.1.length ≤ 400 := h4; omega) fun _ =>?_
 have h3 : r3.1.1.length ≤ 200 := h3
 have h4 : r4.1.1.length ≤ 400 := h4
 refine (aoa ho (y := y2) (l := r3.1.1 ++ r4.1.1) (by omega) (by rw [List.length_append]; omega)).bind fun s hs =>?_
 rw [awv (af2 ho),bnd,if_neg (fun h =>h rfl),aw0 ho,bnd,if_pos hw,akj (l := aam c) (j := 0),bnd]
 have hw0 : ∀ (j : Nat) w,[acN (aam c) 0 ⟨0,0,0,0,.top⟩][j]? = some w → w = acN (aam c) j ⟨0,0,0,0,.top⟩ := fun j w hj =>by
  match j,hj with
  | 0,hj =>exact (Option.some.inj hj).symm
 have hj : JL2 c 0 (akt c) [acN (aam c) 0 ⟨0,0,0,0,.top⟩] (aju c.subs c.workers ⟨0,0,false,.n1⟩) ∧ KI c 0 (akt c) [acN (aam c) 0 ⟨0,0,0,0,.top⟩] (aju c.subs c.workers ⟨0,0,false,.n1⟩) := ⟨ar1 ho hw0,awz ho hw.symm hw0⟩
 refine (aHv (aon aic awA) (l := s.1) hj ast (by omega)).bind fun z hz =>?_
 obtain ⟨zi,ze,z0,zc,zg,⟨⟩⟩ := z
 obtain ⟨⟨a1,ak⟩,a2,_⟩ := hz
 have a1 : JL2 c (0 + s.1.length) ze [z0] zc := a1
 have ak : KI c (0 + s.1.length) ze [z0] zc := ak
 have a2 : EG (0 + s.1.length) ze zg := a2
 have hev := aic.ev a1
 rw [ama,bnd,if_neg (by decide)]
 refine (aol a2.l (by omega)).bind fun v hv =>?_
 rw [hv.1]
 obtain ⟨m1,m2,m3,m4,m5,m6,m7,m8⟩ := aj5 ho a1 ak a2 (by omega)
 obtain ⟨vs,g1,_⟩ := id a1
 obtain ⟨b,d1,d2⟩ := aHE (w0 := z0) (cl := zc) g1.m g1.n
 exact ajJ ho m1 m2 m3 m4 (by omega) m5 m6 fun f hf =>aaI.of_eqM (d1 _) (alW ho hf m5 m6 fun hb =>m7 (d2.1 hb))
theorem axB {y0 y1 y2 : List Int} {o : (Cfg × Unit) × Unit} (e : aga y0 = some o) (ho : DecOk o.1.1) (hw : o.1.1.workers = (((2 : Nat) : Int))) : aaI (abw y0 y1 y2) fun r =>r.1.1 = true := by
 obtain ⟨⟨c,⟨⟩⟩,⟨⟩⟩ := o
 simp only at ho hw
 unfold abw
 refine (ahy y0 [y2] (by simp)).bind fun r hr =>aaI.ite (fun _ =>.some_ rfl) fun hb =>aaI.ite (fun _ =>.some_ rfl) fun hlen =>?_
 have hy : y2.length ≤ 400 := (hr (by cases hq : r.1.1; exact absurd (by rw [hq]; rfl) hb; rfl)).2 y2 (by simp)
 rw [e,bnd]
 refine (ajS ho).bind fun r3 h3 =>?_
 refine (ajL (b := y1) (n := 400) (by omega) (by decide)).bind fun r4 h4 =>.guard (by have h3 : r3.1.1.length ≤ 200 := h3; have h4 : r4.1.1.length ≤ 400 := h4; omega) fun _ =>?_
 have h3 : r3.1.1.length ≤ 200 := h3
 have h4 : r4.1.1.length ≤ 400 := h4
 refine (aoa ho (y := y2) (l := r3.1.1 ++ r4.1.1) (by omega) (by rw [List.length_append]; omega)).bind fun s hs =>?_
 rw [awv (af2 ho),bnd,if_neg (fun h =>h rfl),aw0 ho,bnd,if_pos hw,akj (l := aam c) (j := 0),bnd,akj (l := aam c) (j := 1),bnd]
 have hw0 : ∀ (j : Nat) w,[acN (aam c) 0 ⟨0,0,0,0,.top⟩,acN (aam c) 1 ⟨0,0,0,0,.top⟩][j]? = some w → w = acN (aam c) j ⟨0,0,0,0,.top⟩ := fun j w hj =>by
  match j,hj with
  | 0,hj =>exact (Option.some.inj hj).symm
  | 1,hj =>exact (Option.some.inj hj).symm
 have hj : JL2 c 0 (akt c) [acN (aam c) 0 ⟨0,0,0,0,.top⟩,acN (aam c) 1 ⟨0,0,0,0,.top⟩] (aju c.subs c.workers ⟨0,0,false,.n1⟩) ∧ KI c 0 (akt c) [acN (aam c) 0 ⟨0,0,0,0,.top⟩,acN (aam c) 1 ⟨0,0,0,0,.top⟩] (aju c.subs c.workers ⟨0,0,false,.n1⟩) := ⟨ar1 ho hw0,awz ho hw.symm hw0⟩
 refine (aHu (aon aic awA) (l := s.1) hj ast (by omega)).bind fun z hz =>?_
 obtain ⟨zi,ze,z0,z1,zc,zg,⟨⟩⟩ := z
 obtain ⟨⟨a1,ak⟩,a2,_⟩ := hz
 have a1 : JL2 c (0 + s.1.length) ze [z0,z1] zc := a1
 have ak : KI c (0 + s.1.length) ze [z0,z1] zc := ak
 have a2 : EG (0 + s.1.length) ze zg := a2
 have hev := aic.ev a1
 rw [ama,bnd,if_neg (by decide)]
 refine (aol a2.l (by omega)).bind fun v hv =>?_
 rw [hv.1]
 obtain ⟨m1,m2,m3,m4,m5,m6,m7,m8⟩ := aj5 ho a1 ak a2 (by omega)
 obtain ⟨vs,g1,_⟩ := id a1
 obtain ⟨b,d1,d2⟩ := aHD (w0 := z0) (w1 := z1) (cl := zc) g1.m g1.n
 exact ajJ ho m1 m2 m3 m4 (by omega) m5 m6 fun f hf =>aaI.of_eqM (d1 _) (alW ho hf m5 m6 fun hb =>m7 (d2.1 hb))
theorem axA {y0 y1 y2 : List Int} {o : (Cfg × Unit) × Unit} (e : aga y0 = some o) (ho : DecOk o.1.1) (hw : o.1.1.workers = (((3 : Nat) : Int))) : aaI (abv y0 y1 y2) fun r =>r.1.1 = true := by
 obtain ⟨⟨c,⟨⟩⟩,⟨⟩⟩ := o
 simp only at ho hw
 unfold abv
 refine (ahy y0 [y2] (by simp)).bind fun r hr =>aaI.ite (fun _ =>.some_ rfl) fun hb =>aaI.ite (fun _ =>.some_ rfl) fun hlen =>?_
 have hy : y2.length ≤ 400 := (hr (by cases hq : r.1.1; exact absurd (by rw [hq]; rfl) hb; rfl)).2 y2 (by simp)
 rw [e,bnd]
 refine (ajS ho).bind fun r3 h3 =>?_
 refine (ajL (b := y1) (n := 400) (by omega) (by decide)).bind fun r4 h4 =>.guard (by have h3 : r3.1.1.length ≤ 200 := h3; have h4 : r4.1.1.length ≤ 400 := h4; omega) fun _ =>?_
 have h3 : r3.1.1.length ≤ 200 := h3
 have h4 : r4.1.1.length ≤ 400 := h4
 refine (aoa ho (y := y2) (l := r3.1.1 ++ r4.1.1) (by omega) (by rw [List.length_append]; omega)).bind fun s hs =>?_
 rw [awv (af2 ho),bnd,if_neg (fun h =>h rfl),aw0 ho,bnd,if_pos hw,akj (l := aam c) (j := 0),bnd,akj (l := aam c) (j := 1),bnd,akj (l := aam c) (j := 2),bnd]
 have hw0 : ∀ (j : Nat) w,[acN (aam c) 0 ⟨0,0,0,0,.top⟩,acN (aam c) 1 ⟨0,0,0,0,.top⟩,acN (aam c) 2 ⟨0,0,0,0,.top⟩][j]? = some w → w = acN (aam c) j ⟨0,0,0,0,.top⟩ := fun j w hj =>by
  match j,hj with
  | 0,hj =>exact (Option.some.inj hj).symm
  | 1,hj =>exact (Option.some.inj hj).symm
  | 2,hj =>exact (Option.some.inj hj).symm
 have hj : JL2 c 0 (akt c) [acN (aam c) 0 ⟨0,0,0,0,.top⟩,acN (aam c) 1 ⟨0,0,0,0,.top⟩,acN (aam c) 2 ⟨0,0,0,0,.top⟩] (aju c.subs c.workers ⟨0,0,false,.n1⟩) ∧ KI c 0 (akt c) [acN (aam c) 0 ⟨0,0,0,0,.top⟩,acN (aam c) 1 ⟨0,0,0,0,.top⟩,acN (aam c) 2 ⟨0,0,0,0,.top⟩] (aju c.subs c.workers ⟨0,0,false,.n1⟩) := ⟨ar1 ho hw0,awz ho hw.symm hw0⟩
 refine (aHt (aon aic awA) (l := s.1) hj ast (by omega)).bind fun z hz =>?_
 obtain ⟨zi,ze,z0,z1,z2,zc,zg,⟨⟩⟩ := z
 obtain ⟨⟨a1,ak⟩,a2,_⟩ := hz
 have a1 : JL2 c (0 + s.1.length) ze [z0,z1,z2] zc := a1
 have ak : KI c (0 + s.1.length) ze [z0,z1,z2] zc := ak
 have a2 : EG (0 + s.1.length) ze zg := a2
 have hev := aic.ev a1
 rw [ama,bnd,if_neg (by decide)]
 refine (aol a2.l (by omega)).bind fun v hv =>?_
 rw [hv.1]
 obtain ⟨m1,m2,m3,m4,m5,m6,m7,m8⟩ := aj5 ho a1 ak a2 (by omega)
 obtain ⟨vs,g1,_⟩ := id a1
 obtain ⟨b,d1,d2⟩ := aHC (w0 := z0) (w1 := z1) (w2 := z2) (cl := zc) g1.m g1.n
 exact ajJ ho m1 m2 m3 m4 (by omega) m5 m6 fun f hf =>aaI.of_eqM (d1 _) (alW ho hf m5 m6 fun hb =>m7 (d2.1 hb))
theorem axz {y0 y1 y2 : List Int} {o : (Cfg × Unit) × Unit} (e : aga y0 = some o) (ho : DecOk o.1.1) (hw : o.1.1.workers = (((4 : Nat) : Int))) : aaI (abu y0 y1 y2) fun r =>r.1.1 = true := by
 obtain ⟨⟨c,⟨⟩⟩,⟨⟩⟩ := o
 simp only at ho hw
 unfold abu
 refine (ahy y0 [y2] (by simp)).bind fun r hr =>aaI.ite (fun _ =>.some_ rfl) fun hb =>aaI.ite (fun _ =>.some_ rfl) fun hlen =>?_
 have hy : y2.length ≤ 400 := (hr (by cases hq : r.1.1; exact absurd (by rw [hq]; rfl) hb; rfl)).2 y2 (by simp)
 rw [e,bnd]
 refine (ajS ho).bind fun r3 h3 =>?_
 refine (ajL (b := y1) (n := 400) (by omega) (by decide)).bind fun r4 h4 =>.guard (by have h3 : r3.1.1.length ≤ 200 := h3; have h4 : r4.1.1.length ≤ 400 := h4; omega) fun _ =>?_
 have h3 : r3.1.1.length ≤ 200 := h3
 have h4 : r4.1.1.length ≤ 400 := h4
 refine (aoa ho (y := y2) (l := r3.1.1 ++ r4.1.1) (by omega) (by rw [List.length_append]; omega)).bind fun s hs =>?_
 rw [awv (af2 ho),bnd,if_neg (fun h =>h rfl),aw0 ho,bnd,if_pos hw,akj (l := aam c) (j := 0),bnd,akj (l := aam c) (j := 1),bnd,akj (l := aam c) (j := 2),bnd,akj (l := aam c) (j := 3),bnd]
 have hw0 : ∀ (j : Nat) w,[acN (aam c) 0 ⟨0,0,0,0,.top⟩,acN (aam c) 1 ⟨0,0,0,0,.top⟩,acN (aam c) 2 ⟨0,0,0,0,.top⟩,acN (aam c) 3 ⟨0,0,0,0,.top⟩][j]? = some w → w = acN (aam c) j ⟨0,0,0,0,.top⟩ := fun j w hj =>by
  match j,hj with
  | 0,hj =>exact (Option.some.inj hj).symm
  | 1,hj =>exact (Option.some.inj hj).symm
  | 2,hj =>exact (Option.some.inj hj).symm
  | 3,hj =>exact (Option.some.inj hj).symm
 have hj : JL2 c 0 (akt c) [acN (aam c) 0 ⟨0,0,0,0,.top⟩,acN (aam c) 1 ⟨0,0,0,0,.top⟩,acN (aam c) 2 ⟨0,0,0,0,.top⟩,acN (aam c) 3 ⟨0,0,0,0,.top⟩] (aju c.subs c.workers ⟨0,0,false,.n1⟩) ∧ KI c 0 (akt c) [acN (aam c) 0 ⟨0,0,0,0,.top⟩,acN (aam c) 1 ⟨0,0,0,0,.top⟩,acN (aam c) 2 ⟨0,0,0,0,.top⟩,acN (aam c) 3 ⟨0,0,0,0,.top⟩] (aju c.subs c.workers ⟨0,0,false,.n1⟩) := ⟨ar1 ho hw0,awz ho hw.symm hw0⟩
 refine (aHs (aon aic awA) (l := s.1) hj ast (by omega)).bind fun z hz =>?_
 obtain ⟨zi,ze,z0,z1,z2,z3,zc,zg,⟨⟩⟩ := z
 obtain ⟨⟨a1,ak⟩,a2,_⟩ := hz
 have a1 : JL2 c (0 + s.1.length) ze [z0,z1,z2,z3] zc := a1
 have ak : KI c (0 + s.1.length) ze [z0,z1,z2,z3] zc := ak
 have a2 : EG (0 + s.1.length) ze zg := a2
 have hev := aic.ev a1
 rw [ama,bnd,if_neg (by decide)]
 refine (aol a2.l (by omega)).bind fun v hv =>?_
 rw [hv.1]
 obtain ⟨m1,m2,m3,m4,m5,m6,m7,m8⟩ := aj5 ho a1 ak a2 (by omega)
 obtain ⟨vs,g1,_⟩ := id a1
 obtain ⟨b,d1,d2⟩ := aHB (w0 := z0) (w1 := z1) (w2 := z2) (w3 := z3) (cl := zc) g1.m g1.n
 exact ajJ ho m1 m2 m3 m4 (by omega) m5 m6 fun f hf =>aaI.of_eqM (d1 _) (alW ho hf m5 m6 fun hb =>m7 (d2.1 hb))
theorem aBQ {y0 y1 y2 : List Int} (hb : ∀ x ∈ y0,0 ≤ x ∧ x ≤ 255) :
  aaI (aa6 y0 y1 y2) (fun r =>r.1.1 = true) ∨ aaI (abw y0 y1 y2) (fun r =>r.1.1 = true) ∨ aaI (abv y0 y1 y2) (fun r =>r.1.1 = true) ∨ aaI (abu y0 y1 y2) (fun r =>r.1.1 = true) := by
 by_cases hl : y0.length ≤ 400
 ·obtain ⟨o,e,ho⟩ := avr hb (by omega)
  have hw := ho.w
  have hv : o.1.1.workers = ((1 : Nat) : Int) ∨ o.1.1.workers = ((2 : Nat) : Int) ∨ o.1.1.workers = ((3 : Nat) : Int) ∨ o.1.1.workers = ((4 : Nat) : Int) := by omega
  rcases hv with h | h | h | h
  ·exact .inl (axC e ho h)
  ·exact .inr (.inl (axB e ho h))
  ·exact .inr (.inr (.inl (axA e ho h)))
  ·exact .inr (.inr (.inr (axz e ho h)))
 ·refine .inl ?_
  unfold aa6
  refine (ahy y0 [y2] (by simp)).bind fun r hr =>aaI.ite (fun _ =>.some_ rfl) fun h =>?_
  exfalso
  have h1 : r.1.1 = true := by revert h; cases r.1.1 <;> simp
  exact hl (hr h1).1
end
end Go.Proofs.YteapeojalliebaaGreat
