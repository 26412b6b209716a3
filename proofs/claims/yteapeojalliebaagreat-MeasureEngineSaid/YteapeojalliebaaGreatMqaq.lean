/- Who has a task,in the program's memory: what each line that touches a task does. Who has a task: Run,a worker,the client. Who has a task: what holds of an engine between its entries. What MeasureEngine calls,in the evaluator's form. -/
import Derived.Test.YteapeojalliebaaGreatMqap
import Derived.Test.YteapeojalliebaaGreatMqam
set_option linter.all false
namespace Go.Proofs.YteapeojalliebaaGreat
section
open Go Go.RowKit
set_option maxRecDepth 100000
variable [Tb]
section
variable {c : Cfg} {e e1 e' : EnvP} {v v1 v' : Vw} {t u k x : Int}
theorem aDo (h : DecOk c) {f : Int} (hf : 0 ≤ f ∧ f < 5) (ht : TOk c t) : 0 ≤ acP (aam c) t f ∧ acP (aam c) t f < aaM c := by
 have e1 := adO h (t := t) hf
 have e3 := agj h
 have h4 := h.h
 have ht : 0 ≤ t ∧ t < c.tasks := ht
 rw [e1,if_pos ht]
 unfold aaM
 omega
theorem asj (h : DecOk c) (hl : (e.m.cells.length : Int) = aaM c) {f : Int} (hf : 0 ≤ f ∧ f < 5) (ht : TOk c t) : (e.pt k (acP (aam c) t f) x).gt (acP (aam c) t f) = x := by
 have := aDo h hf ht
 rw [afx,if_pos ⟨rfl,by omega⟩]
theorem avj (h : DecOk c) {f : Int} (hf : 0 ≤ f ∧ f < 5) (ht : TOk c t) (hu : u ≠ t) : (e.pt k (acP (aam c) t f) x).gt (acP (aam c) u f) = e.gt (acP (aam c) u f) := by
 rw [afx,if_neg]
 intro h'
 exact hu (aGg h hf ht h'.1)
theorem ann (h : DecOk c) (hl : (e.m.cells.length : Int) = aaM c) (ht : TOk c t) : Stt c (e.pt k (aaV (aam c) t) x) t = x := asj h hl (f := 0) (by omega) ht
theorem atQ (h : DecOk c) (ht : TOk c t) : Of1 c e (e.pt k (aaV (aam c) t) x) t :=
 ⟨fun u hu =>avj h (f := 0) (by omega) ht hu,fun u =>alT h (f := 2) (by omega) (by omega) (by omega),at1 h (by omega) (by omega),rfl,fun _ _ _ =>rfl,[],by show e.evs = _; simp,fun y hy =>by cases hy⟩
theorem apj : Of1 c e e t := ⟨fun _ _ =>rfl,fun _ =>rfl,rfl,rfl,fun _ _ _ =>rfl,[],by simp,fun y hy =>by cases hy⟩
theorem Of1.em {w o y : Int} (h : Of1 c e e' t) (hk : u = t ∨ (k ≠ 1 ∧ k ≠ 3 ∧ k ≠ 5 ∧ k ≠ 10)) : Of1 c e (e'.em k w u o y) t := by
 obtain ⟨m,hm,hp⟩ := h.ev
 refine ⟨h.st,h.jo,h.nx,h.rl,h.rc,m ++ [⟨k,w,u,o,y⟩],by show e'.evs ++ [_] = _; rw [hm,List.append_assoc],fun x hx =>?_⟩
 rcases List.mem_append.1 hx with hx | hx
 ·exact hp x hx
 ·rw [List.mem_singleton.1 hx]; exact hk
theorem ayK {r : RecP} (ht : 0 ≤ t) (hx : x ≠ t) (h0 : 0 ≤ x) : (e.pr t r).rc x = e.rc x := by
 show atL _ (e.recs.set t.toNat r) x = atL _ e.recs x
 unfold atL
 rw [List.getElem?_set_ne (by omega)]
theorem aqB {r : RecP} (ht : TOk c t) (hr : (e.recs.length : Int) = c.tasks) : (e.pr t r).rc t = r := by
 have ht : 0 ≤ t ∧ t < c.tasks := ht
 exact amc (by omega)
theorem Of1.pr {r : RecP} (h : Of1 c e e' t) (ht : TOk c t) : Of1 c e (e'.pr t r) t :=
 ⟨h.st,h.jo,h.nx,by show (e'.recs.set _ _).length = _; rw [List.length_set]; exact h.rl,fun x hx h0 =>by rw [ayK ht.1 hx h0]; exact h.rc x hx h0,h.ev⟩
theorem Of1.wt (h : Of1 c e e' t) (hd : DecOk c) : Of1 c e (e'.pt k (aeJ (aam c) u) x) t :=
  ⟨fun y hy =>by rw [show Stt c (e'.pt k (aeJ (aam c) u) x) y = Stt c e' y from alT hd (f := 0) (by omega) (by omega) (by omega)]; exact h.st y hy,
   fun y =>by rw [show Jo c (e'.pt k (aeJ (aam c) u) x) y = Jo c e' y from alT hd (f := 2) (by omega) (by omega) (by omega)]; exact h.jo y,
   by rw [show (e'.pt k (aeJ (aam c) u) x).gt 0 = e'.gt 0 from at1 hd (by omega) (by omega)]; exact h.nx,h.rl,h.rc,h.ev⟩
theorem aBm {s0 s : Nat → Ts} {l : List Int} {p : Ph} (ht : TOk c t) (o : Of1 c e e' t)
  (h0 : ∀ (a : Ab) (m : Nat),LA a → a.T = c.tasks → a.S = Stt c e → a.J = Jo c e → a.wa = rcw e → a.hd m = v.1 → a.ph m = v.2 → a.ts t = s0 m)
  (m0 : ∀ m m',(s0 m).mine = some m' → m' = m) (w0 : ∀ m u,s0 m ≠ .wait u) (f0 : ∀ m,s0 m ≠ .fresh) (f1 : ∀ m,s m ≠ .fresh) (ho : ∀ m,(s0 m).over → (s m).over)
  (hsn : (abP kSn e.evs t = if rcs e t = true then 1 else 0) → abP kSn e'.evs t = if rcs e' t = true then 1 else 0)
  (hk : ∀ m,aH2 (s0 m) (Stt c e t) (rcw e t) (Jo c e t) (rcs e t) (abP kKn e.evs t) (abP kFn e.evs t) → aH2 (s m) (Stt c e' t) (rcw e' t) (Jo c e t) (rcs e' t) (abP kKn e'.evs t) (abP kFn e'.evs t))
  (hl : ∀ m,v.1.Nodup → (t ∈ v.1 → s0 m = .run m) → ∀ x ∈ l,(x = t ∧ s m = .run m) ∨ (x ≠ t ∧ x ∈ v.1)) (hn : ∀ m,v.1.Nodup → (t ∈ v.1 → s0 m = .run m) → l.Nodup)
  (h4 : ∀ m m',s m = .fin m' → m' = m ∧ p = .f t) (h5 : ∀ x,x ≠ t → v.2 ≠ .f x)
  (hp : ∀ (a : Ab) (m : Nat),LA a → a.T = c.tasks → a.J = Jo c e → a.wa = rcw e → a.hd m = v.1 → a.ph m = v.2 → a.ts t = s0 m →
   Ab.phOk { a with S := upd a.S t (Stt c e' t),wa := upd a.wa t (rcw e' t),st := upd a.st t (rcs e' t),kn := upd a.kn t (abP kKn e'.evs t),sn := upd a.sn t (abP kSn e'.evs t),fn := upd a.fn t (abP kFn e'.evs t),ts := upd a.ts t (s m) } m l p) :
  Lw c e e' v (l,p) := aCO (s0 := .done) (s := .done) ht o fun a m la hT hS hJ hw hst hkn hsn' hfn hh hph =>by
 have e0 := h0 a m la hT hS hJ hw hh hph
 have hok : a.ok t := ⟨ht.1,by rw [hT]; exact ht.2⟩
 obtain ⟨c1,c2,c3⟩ := la.cl t hok
 rw [e0,hS,hw,hJ,hst,hkn,hfn] at c3
 rw [hsn',hst] at c1
 rw [e0] at c2
 have q1 : v.1.Nodup := by rw [← hh]; exact la.nd m
 have q2 : t ∈ v.1 → s0 m = .run m := fun k =>by rw [← e0]; rw [← hh] at k; exact (la.hd m t k).2
 refine ⟨s m,fun m' k =>m0 m m' (by rw [← e0]; exact k),fun u k =>absurd (e0.symm.trans k) (w0 m u),fun k =>ho m (by rw [← e0]; exact k),⟨hsn c1,⟨fun k =>absurd k (f1 m),fun k =>absurd (c2.2 k) (f0 m)⟩,hk m c3⟩,fun x hx =>?_,hn m q1 q2,h4 m,fun x hx k =>h5 x hx (hph.symm.trans k),hp a m la hT hJ hw hh hph e0⟩
 rw [hh]; exact hl m q1 q2 x hx
section
variable {l : List Int}
theorem amO (h : (l ++ [t]).Nodup) : l.Nodup ∧ t ∉ l := by
 rw [List.nodup_append] at h
 exact ⟨h.1,fun k =>h.2.2 t k t (List.mem_singleton.2 rfl) rfl⟩
theorem ayv {m : Nat} {a : Ab} (la : LA a) (hh : a.hd m = l) (ht : t ∈ l) : a.ts t = .run m := (la.hd m t (by rw [hh]; exact ht)).2
theorem okA {a : Ab} (hT : a.T = c.tasks) (ht : TOk c t) : a.ok t := ⟨ht.1,by rw [hT]; exact ht.2⟩
theorem azt {x : Int} (hn : (l ++ [t]).Nodup) (hx : x ∈ l) : x ≠ t ∧ x ∈ l ++ [t] := ⟨fun k =>(amO hn).2 (k ▸ hx),List.mem_append_left _ hx⟩
theorem aFu (hd : DecOk c) (hl : (e.m.cells.length : Int) = aaM c) (ht : TOk c t) : Lw c e (e.pt k (aaV (aam c) t) 4) (l ++ [t],.n) (l,.f t) := by
 refine aBm (s0 := fun m =>.run m) (s := fun m =>.fin m) ht (atQ hd ht) (fun a m la hT hS hJ hw hh hp =>ayv la hh (by simp)) (fun m m' k =>(Option.some.inj k).symm) (fun m u k =>by cases k) (fun m k =>by cases k) (fun m k =>by cases k) (fun m k =>k) (fun k =>k)
  (fun m k =>?_) (fun m hn _ x hx =>.inr (azt hn hx)) (fun m hn _ =>(amO hn).1) (fun m m' k =>⟨(Ts.fin.inj k).symm,rfl⟩) (fun x hx k =>by cases k) fun a m la hT hJ hw hh hp e0 =>⟨okA hT ht,abf⟩
 exact ⟨ann hd hl ht,k.2⟩
theorem aEM (hd : DecOk c) (hl : (e.m.cells.length : Int) = aaM c) (ht : TOk c t) : Lw c e (e.pt k (aaV (aam c) t) 3) (l ++ [t],.j t u) (l,.b t u) := by
 refine aBm (s0 := fun m =>.run m) (s := fun m =>.bm m) ht (atQ hd ht) (fun a m la hT hS hJ hw hh hp =>ayv la hh (by simp)) (fun m m' k =>(Option.some.inj k).symm) (fun m u k =>by cases k) (fun m k =>by cases k) (fun m k =>by cases k) (fun m k =>k) (fun k =>k)
  (fun m k =>?_) (fun m hn _ x hx =>.inr (azt hn hx)) (fun m hn _ =>(amO hn).1) (fun m m' k =>by cases k) (fun x hx k =>by cases k) fun a m la hT hJ hw hh hp e0 =>⟨okA hT ht,abf,?_⟩
 ·exact ⟨ann hd hl ht,k.2⟩
 ·have := la.ph m
  rw [hp] at this
  simp only [abf]
  have h2 : a.wa t = u := this.2
  rw [hw] at h2
  exact h2
theorem aEL : Lw c e e (l,.b t u) (l,.r t) :=
 auI (fun x hx =>hx) (fun h =>h) (fun x k =>by cases k) fun a m la hT hJ hw hh hp =>by
  have := la.ph m
  rw [hp] at this
  exact ⟨this.1,this.2.1⟩
theorem aFH (hd : DecOk c) (hl : (e.m.cells.length : Int) = aaM c) (ht : TOk c t) : Lw c e (e.pt k (aaV (aam c) t) 2) (l,.r t) (l ++ [t],.n) := by
 refine aBm (s0 := fun m =>.bm m) (s := fun m =>.run m) ht (atQ hd ht) (fun a m la hT hS hJ hw hh hp =>?_) (fun m m' k =>(Option.some.inj k).symm) (fun m u k =>by cases k) (fun m k =>by cases k) (fun m k =>by cases k) (fun m k =>k) (fun k =>k)
  (fun m k =>?_) (fun m hn q x hx =>?_) (fun m hn q =>?_) (fun m m' k =>by cases k) (fun x hx k =>by cases k) fun a m la hT hJ hw hh hp e0 =>trivial
 ·have := la.ph m
  rw [hp] at this
  exact this.2
 ·exact ⟨ann hd hl ht,k.2⟩
 ·rcases List.mem_append.1 hx with hx | hx
  ·exact .inr ⟨fun k =>(by have := q (k ▸ hx); cases this),hx⟩
  ·exact .inl ⟨List.mem_singleton.1 hx,rfl⟩
 ·exact List.nodup_append.2 ⟨hn,by simp,fun a ha b hb k =>by
   rw [List.mem_singleton.1 hb] at k
   have := q (k ▸ ha)
   cases this⟩
theorem aDV (hd : DecOk c) (hl : (e.m.cells.length : Int) = aaM c) (hu : TOk c u) (hx : x ≠ 0) (hb : x ≤ 4294967296) (H : ∀ (a : Ab) (m : Nat),LA a → a.T = c.tasks → a.wa = rcw e → a.hd m = v.1 → a.ph m = v.2 → ∀ w,TOk c w → x = w + 1 → a.ts w = .wait u) :
  Lw c e (e.pt k (acO (aam c) u) x) v v := fun m vs hv h =>by
 obtain ⟨rl,ts,la⟩ := h
 have := la.setJ (u := u) (v := x) hx hb fun w hw =>H _ m la rfl rfl (by show (vs m).1 = _; rw [hv]) (by show (vs m).2 = _; rw [hv]) w hw
 rw [aoz hv]
 refine ⟨rl,ts,?_⟩
 have e1 : Stt c (e.pt k (acO (aam c) u) x) = Stt c e := funext fun t =>alT hd (f := 0) (by omega) (by omega) (by omega)
 have e2 : Jo c (e.pt k (acO (aam c) u) x) = upd (Jo c e) u x := funext fun t =>by
  by_cases ht : t = u
  ·subst ht; rw [abf]; exact asj hd hl (f := 2) (by omega) hu
  ·rw [aba ht]; exact avj hd (f := 2) (by omega) hu ht
 have e3 : (e.pt k (acO (aam c) u) x).gt 0 = e.gt 0 := at1 hd (by omega) (by omega)
 have e4 : ahW c (e.pt k (acO (aam c) u) x) ts vs = { ahW c e ts vs with J := upd (Jo c e) u x } := by
  unfold ahW; rw [e1,e2,e3]; rfl
 rw [e4]; exact this
theorem aHo (hd : DecOk c) (hl : (e.m.cells.length : Int) = aaM c) (hu : TOk c u) : Lw c e (e.pt k (acO (aam c) u) (t + 1)) (l,.b t u) (l,.n) := fun m vs hv hh =>by
 obtain ⟨rl,ts,la⟩ := hh
 have hph := la.ph m
 have e2 : (ahW c e ts vs).ph m = .b t u := by show (vs m).2 = _; rw [hv]
 have e1 : (ahW c e ts vs).hd m = l := by show (vs m).1 = _; rw [hv]
 rw [e2] at hph
 obtain ⟨k1,k2,k3⟩ := hph
 obtain ⟨c1,c2,c3⟩ := la.cl t k1
 rw [k2] at c2 c3
 have hk1 : 0 ≤ t := k1.1
 have h1 := la.put (m := m) (t := t) k1 (s := .wait u) (S := Stt c e t) (wa := rcw e t) (st := rcs e t) (kn := abP kKn e.evs t) (sn := abP kSn e.evs t) (fn := abP kFn e.evs t) (l := l) (p := .n)
  (fun m' k =>by rw [k2] at k; exact (Option.some.inj k).symm) (fun u k =>by rw [k2] at k; cases k) (fun k =>by rw [k2] at k; cases k)
  ⟨c1,⟨fun k =>(by cases k),fun k =>(by have := c2.2 k; cases this)⟩,c3.1,c3.2.1,c3.2.2.1,c3.2.2.2,k3⟩
  (fun x hx =>.inr ⟨fun k =>(by
   have := (la.hd m x (by rw [e1]; exact hx)).2
   rw [k,k2] at this; cases this),by rw [e1]; exact hx⟩) (by have := la.nd m; rw [e1] at this; exact this) (fun m' k =>(by cases k)) (fun x hx k =>(by rw [e2] at k; cases k)) trivial
 have h2 := h1.setJ (u := u) (v := t + 1) (by omega) (by have hk2 : t < c.tasks := k1.2; have := hd.t; omega) fun w hw k =>by
  have : w = t := by omega
  subst this; exact abf
 have q : ∀ {α : Type} {f : Int → α},upd f t (f t) = f := fun {α f} =>funext fun y =>by
  unfold upd; split
  ·rename_i h; rw [h]
  ·rfl
 have e3 : Stt c (e.pt k (acO (aam c) u) (t + 1)) = Stt c e := funext fun t =>alT hd (f := 0) (by omega) (by omega) (by omega)
 have e4 : Jo c (e.pt k (acO (aam c) u) (t + 1)) = upd (Jo c e) u (t + 1) := funext fun x =>by
  by_cases ht : x = u
  ·subst ht; rw [abf]; exact asj hd hl (f := 2) (by omega) hu
  ·rw [aba ht]; exact avj hd (f := 2) (by omega) hu ht
 have e5 : (e.pt k (acO (aam c) u) (t + 1)).gt 0 = e.gt 0 := at1 hd (by omega) (by omega)
 refine ⟨rl,upd ts t (.wait u),?_⟩
 rw [avz]
 have e6 : ({ ahW c (e.pt k (acO (aam c) u) (t + 1)) (upd ts t (.wait u)) vs with hd := ait (fun m =>(vs m).1) m (l,Ph.n).1,ph := ait (fun m =>(vs m).2) m (l,Ph.n).2 } : Ab) = { ahW c e ts vs with S := upd (Stt c e) t (Stt c e t),wa := upd (rcw e) t (rcw e t),st := upd (rcs e) t (rcs e t),kn := upd (abP kKn e.evs) t (abP kKn e.evs t),sn := upd (abP kSn e.evs) t (abP kSn e.evs t),fn := upd (abP kFn e.evs) t (abP kFn e.evs t),ts := upd ts t (.wait u),hd := ait (fun m =>(vs m).1) m l,ph := ait (fun m =>(vs m).2) m .n,J := upd (Jo c e) u (t + 1) } := by
  unfold ahW
  rw [q,q,q,q,q,q,e3,e4,e5]; rfl
 rw [e6]
 exact h2
theorem aCM (hd : DecOk c) (ht : TOk c t) (o : Of1 c e e' t) (hin : t ∈ l) (hS : Stt c e' t = Stt c e t) (hs : rcs e' t = rcs e t) (hk : abP kKn e'.evs t = abP kKn e.evs t) (hn : abP kSn e'.evs t = abP kSn e.evs t) (hf : abP kFn e'.evs t = abP kFn e.evs t) {p : Ph} (hp : p = .n ∨ p = .j t (rcw e' t)) : Lw c e e' (l,.n) (l,p) := by
 refine aBm (s0 := fun m =>.run m) (s := fun m =>.run m) ht o (fun a m la hT hS hJ hw hh hp =>ayv la hh hin) (fun m m' k =>(Option.some.inj k).symm) (fun m u k =>by cases k) (fun m k =>by cases k) (fun m k =>by cases k) (fun m k =>k) (fun k =>by rw [hn,hs]; exact k)
  (fun m k =>?_) (fun m hn _ x hx =>?_) (fun m hn _ =>hn) (fun m m' k =>by cases k) (fun x hx k =>by cases k) fun a m la hT hJ hw hh hph e0 =>?_
 ·rw [hS,hs,hk,hf]; exact k
 ·by_cases hx2 : x = t
  ·exact .inl ⟨hx2,rfl⟩
  ·exact .inr ⟨hx2,hx⟩
 ·rcases hp with rfl | rfl
  ·trivial
  ·exact ⟨hin,abf⟩
theorem aC4 (o : Of1 c e e' t) (hp : v = (l,.f t)) (ht : TOk c t) (hj : Jo c e t ≠ 0) (hS : Stt c e' t = Stt c e t) (hw : rcw e' t = rcw e t) (hs : rcs e' t = rcs e t) (hk : abP kKn e'.evs t = abP kKn e.evs t) (hn : abP kSn e'.evs t = abP kSn e.evs t) (hf : abP kFn e'.evs t = abP kFn e.evs t + 1)
  {s : Nat → Ts} {p : Ph} (hsp : (∀ m,s m = .fg m) ∧ p = .g t ∨ (∀ m,s m = .done) ∧ p = .n) : Lw c e e' v (l,p) := by
 subst hp
 refine aBm (s0 := fun m =>.fin m) (s := s) ht o (fun a m la hT hS hJ hw hh hp =>?_) (fun m m' k =>(Option.some.inj k).symm) (fun m u k =>by cases k) (fun m k =>by cases k) (fun m k =>?_) (fun m k =>k.elim) (fun k =>by rw [hn,hs]; exact k)
  (fun m k =>?_) (fun m hn q x hx =>.inr ⟨fun k =>(by have := q (k ▸ hx); cases this),hx⟩) (fun m hn _ =>hn) (fun m m' k =>?_) (fun x hx k =>?_) fun a m la hT hJ hw2 hh hph e0 =>?_
 ·have := la.ph m
  rw [hp] at this
  exact this.2
 ·rcases hsp with ⟨h1,_⟩ | ⟨h1,_⟩ <;> rw [h1] at k <;> cases k
 ·rw [hS,hw,hs,hk,hf]
  rcases hsp with ⟨h1,_⟩ | ⟨h1,_⟩ <;> rw [h1]
  ·exact ⟨k.1,k.2.1,k.2.2.1,by rw [k.2.2.2],hj⟩
  ·exact ⟨k.1,k.2.1,k.2.2.1,by rw [k.2.2.2],hj⟩
 ·rcases hsp with ⟨h1,_⟩ | ⟨h1,_⟩ <;> rw [h1] at k <;> cases k
 ·cases k; exact hx rfl
 ·rcases hsp with ⟨h1,rfl⟩ | ⟨h1,rfl⟩
  ·refine ⟨okA hT ht,by simp only [abf]; exact h1 m,fun w hw3 hj2 =>?_⟩
   have h2 := la.j1 t w (okA hT ht) hw3 (by rw [e0]; exact id) hj2
   have h3 : w ≠ t := fun k =>by rw [k,e0] at h2; cases h2
   simp only [aba h3]; exact h2
  ·trivial
theorem aEQ {w : Int} (hd : DecOk c) (hw : TOk c w) (h0 : 0 ≤ Jo c e t) (hj : wi (wi (Jo c e t) - 1) = w) : Lw c e e (l,.g t) (l,.h t w) :=
 auI (fun x hx =>hx) (fun h =>h) (fun x k =>by cases k) fun a m la hT hJ hwa hh hp =>by
  have := la.ph m
  rw [hp] at this
  have hb := la.jb t this.1
  rw [hJ] at hb
  have ht := hd.t
  have h1 : 0 ≤ w ∧ w < c.tasks := hw
  rw [aaF (x := Jo c e t) (aan (by omega)),aaF (aan (by omega))] at hj
  exact ⟨this.1,this.2.1,okA hT hw,this.2.2 w (okA hT hw) (by rw [hJ]; omega)⟩
theorem aCf (hd : DecOk c) (hl : (e.m.cells.length : Int) = aaM c) {w : Int} (hw : TOk c w) : Lw c e (e.pt k (aaV (aam c) w) 1) (l,.h t w) (l,.n) :=
 aCO (s0 := .done) (s := .done) hw (atQ hd hw) fun a m la hT hS hJ hwa hst hkn hsn hfn hh hp =>by
  have hph := la.ph m
  rw [hp] at hph
  obtain ⟨k1,k2,k3,k4⟩ := hph
  obtain ⟨c1,c2,c3⟩ := la.cl w k3
  rw [k4] at c2 c3
  rw [hsn,hst] at c1
  rw [hS,hwa,hJ,hst,hkn,hfn] at c3
  refine ⟨.ready,fun m' k =>(by rw [k4] at k; cases k),fun u k =>?_,fun k =>(by rw [k4] at k; cases k),⟨c1,⟨fun k =>(by cases k),fun k =>(by have := c2.2 k; cases this)⟩,ann hd hl hw,c3.2.2.1,c3.2.2.2.1⟩,fun x hx =>.inr ⟨fun k =>?_,by rw [hh]; exact hx⟩,?_,fun m' k =>(by cases k),fun x hx k =>(by rw [hp] at k; cases k),trivial⟩
  ·rw [k4] at k; cases k; exact ⟨k1,k2⟩
  ·have := (la.hd m x (by rw [hh]; exact hx)).2
   rw [k,k4] at this; cases this
  ·have := la.nd m; rw [hh] at this; exact this
theorem aA4 (hd : DecOk c) (hl : (e.m.cells.length : Int) = aaM c) (ht : TOk c t) {w o y : Int} : Lw c e ((e.pt k (aaV (aam c) t) 1).em 3 w t o y) (l,.p t) (l,.n) := by
 refine aBm (s0 := fun m =>.alloc m) (s := fun m =>.ready) ht ((atQ hd ht).em (.inl rfl)) (fun a m la hT hS hJ hw hh hp =>?_) (fun m m' k =>(Option.some.inj k).symm) (fun m u k =>by cases k) (fun m k =>?_) (fun m k =>by cases k) (fun m k =>k.elim) (fun k =>?_)
  (fun m k =>?_) (fun m hn q x hx =>.inr ⟨fun k =>(by have := q (k ▸ hx); cases this),hx⟩) (fun m hn _ =>hn) (fun m m' k =>by cases k) (fun x hx k =>by cases k) fun a m la hT hJ hw hh hp e0 =>trivial
 ·have := la.ph m
  rw [hp] at this
  exact this.2
 ·cases k
 ·show abP kSn (e.evs ++ [_]) t = _
  rw [aei,ae1,if_neg (by intro h; have := h.2; revert this; decide)]
  exact k
 ·refine ⟨ann hd hl ht,?_,?_⟩
  ·show abP kKn (e.evs ++ [_]) t = 1
   rw [aei,ae1,if_pos ⟨rfl,by decide⟩,k.2.2.1]
  ·show abP kFn (e.evs ++ [_]) t = 0
   rw [aei,ae1,if_neg (by intro h; have := h.2; revert this; decide),k.2.2.2]
theorem aus (ht : TOk c t) {w o y : Int} : Lw c e (e.em 1 w t o y) (l,.p t) (l,.q t) := by
 refine aBm (s0 := fun m =>.alloc m) (s := fun m =>.acc m) ht (apj.em (.inl rfl)) (fun a m la hT hS hJ hw hh hp =>?_) (fun m m' k =>(Option.some.inj k).symm) (fun m u k =>by cases k) (fun m k =>by cases k) (fun m k =>by cases k) (fun m k =>k.elim) (fun k =>?_)
  (fun m k =>?_) (fun m hn q x hx =>.inr ⟨fun k =>(by have := q (k ▸ hx); cases this),hx⟩) (fun m hn _ =>hn) (fun m m' k =>by cases k) (fun x hx k =>by cases k) fun a m la hT hJ hw hh hp e0 =>⟨okA hT ht,abf⟩
 ·have := la.ph m
  rw [hp] at this
  exact this.2
 ·show abP kSn (e.evs ++ [_]) t = _
  rw [aei,ae1,if_neg (by intro h; have := h.2; revert this; decide)]
  exact k
 ·refine ⟨k.1,k.2.1,?_,?_⟩
  ·show abP kKn (e.evs ++ [_]) t = 1
   rw [aei,ae1,if_pos ⟨rfl,by decide⟩,k.2.2.1]
  ·show abP kFn (e.evs ++ [_]) t = 0
   rw [aei,ae1,if_neg (by intro h; have := h.2; revert this; decide),k.2.2.2]
theorem aBj (hd : DecOk c) (hl : (e.m.cells.length : Int) = aaM c) (ht : TOk c t) : Lw c e (e.pt k (aaV (aam c) t) 1) (l,.q t) (l,.n) := by
 refine aBm (s0 := fun m =>.acc m) (s := fun m =>.ready) ht (atQ hd ht) (fun a m la hT hS hJ hw hh hp =>?_) (fun m m' k =>(Option.some.inj k).symm) (fun m u k =>by cases k) (fun m k =>by cases k) (fun m k =>by cases k) (fun m k =>k.elim) (fun k =>k)
  (fun m k =>⟨ann hd hl ht,k.2.2.1,k.2.2.2⟩) (fun m hn q x hx =>.inr ⟨fun k =>(by have := q (k ▸ hx); cases this),hx⟩) (fun m hn _ =>hn) (fun m m' k =>by cases k) (fun x hx k =>by cases k) fun a m la hT hJ hw hh hp e0 =>trivial
 have := la.ph m
 rw [hp] at this
 exact this.2
theorem aoq (hd : DecOk c) (hl : (e.m.cells.length : Int) = aaM c) (hL : e.l = aam c) (ht : TOk c t) (hb : aer t e = true) {w : Int} : Lw c e (afg w t e) (l,.n) (l ++ [t],.n) := fun m vs hv hh =>by
 have rl := hh.rl
 have hb2 : e.hit (aaV (aam c) t) 1 = true := by unfold aer at hb; rw [hL] at hb; exact hb
 have hg : Stt c e t = 1 := (awE hb2).1
 have hc : e.cas (aaV (aam c) t) 1 2 = e.pt 3 (aaV (aam c) t) 2 := by
  show e.pt 3 _ (if e.m.gt _ = 1 then 2 else _) = _
  rw [if_pos hg]
 have rdy : ∀ (a : Ab),LA a → a.T = c.tasks → a.S = Stt c e → a.ts t = .ready := fun a la hT hS =>by
  have := (la.cl t (okA hT ht)).2.2
  rw [hS,hg] at this
  revert this
  cases a.ts t <;> intro this <;> first | rfl | exact absurd this.1 (by decide)
 have main : ∀ {e' : EnvP},Of1 c e e' t → Stt c e' t = 2 → rcw e' t = rcw e t → rcs e' t = true → abP kKn e'.evs t = abP kKn e.evs t → abP kSn e'.evs t = (if rcs e t = true then abP kSn e.evs t else abP kSn e.evs t + 1) → abP kFn e'.evs t = abP kFn e.evs t → Lw c e e' (l,.n) (l ++ [t],.n) := fun {e'} o h1 h2 h3 h4 h5 h6 =>by
  refine aBm (s0 := fun m =>.ready) (s := fun m =>.run m) ht o (fun a m la hT hS hJ hw hh hp =>rdy a la hT hS) (fun m m' k =>by cases k) (fun m u k =>by cases k) (fun m k =>by cases k) (fun m k =>by cases k) (fun m k =>k.elim) (fun k =>?_)
   (fun m k =>⟨h1,h3,by rw [h4]; exact k.2.1,by rw [h6]; exact k.2.2⟩) (fun m hn q x hx =>?_) (fun m hn q =>?_) (fun m m' k =>by cases k) (fun x hx k =>by cases k) fun a m la hT hJ hw hh hp e0 =>trivial
  ·rw [h5,h3,if_pos rfl]
   split
   ·rename_i k2; rw [if_pos k2] at k; exact k
   ·rename_i k2; rw [if_neg k2] at k; omega
  ·rcases List.mem_append.1 hx with hx | hx
   ·exact .inr ⟨fun k =>(by have := q (k ▸ hx); cases this),hx⟩
   ·exact .inl ⟨List.mem_singleton.1 hx,rfl⟩
  ·exact List.nodup_append.2 ⟨hn,by simp,fun a ha b hb k =>by
    rw [List.mem_singleton.1 hb] at k
    have := q (k ▸ ha)
    cases this⟩
 refine main ?_ ?_ ?_ ?_ ?_ ?_ ?_ m vs hv hh <;> unfold afg <;> rw [if_pos hb,hL,hc]
 ·split
  ·exact (atQ hd ht).em (.inl rfl)
  ·exact ((atQ hd ht).pr ht).em (.inl rfl)
 ·split
  ·exact ann hd hl ht
  ·exact ann hd hl ht
 ·split
  ·rfl
  ·show (if 0 ≤ t then ((e.pt 3 (aaV (aam c) t) 2).pr t _).rc t |>.waiting else -1) = _
   rw [aqB (e := e.pt 3 (aaV (aam c) t) 2) ht rl]; rfl
 ·split
  ·rename_i k
   show (if 0 ≤ t then (e.rc t).started else false) = true
   rw [if_pos ht.1]; exact k
  ·show (if 0 ≤ t then ((e.pt 3 (aaV (aam c) t) 2).pr t _).rc t |>.started else false) = true
   rw [if_pos ht.1,aqB (e := e.pt 3 (aaV (aam c) t) 2) ht rl]
 ·split
  ·show abP kKn (e.evs ++ [_]) t = _
   rw [aei,ae1,if_neg (by intro h; have := h.2; revert this; decide),Nat.add_zero]
  ·show abP kKn (e.evs ++ [_]) t = _
   rw [aei,ae1,if_neg (by intro h; have := h.2; revert this; decide),Nat.add_zero]
 ·have hr : rcs e t = (e.rc t).started := if_pos ht.1
  rw [hr]
  split
  ·show abP kSn (e.evs ++ [_]) t = _
   rw [aei,ae1,if_neg (by intro h; have := h.2; revert this; decide),Nat.add_zero]
  ·show abP kSn (e.evs ++ [_]) t = _
   rw [aei,ae1,if_pos ⟨rfl,by decide⟩]
 ·split
  ·show abP kFn (e.evs ++ [_]) t = _
   rw [aei,ae1,if_neg (by intro h; have := h.2; revert this; decide),Nat.add_zero]
  ·show abP kFn (e.evs ++ [_]) t = _
   rw [aei,ae1,if_neg (by intro h; have := h.2; revert this; decide),Nat.add_zero]
theorem aop (hd : DecOk c) (hL : e.l = aam c) (hb : ¬ aer t e = true) {w : Int} : Qs c e (afg w t e) := by
 have hb2 : ¬ e.hit (aaV (aam c) t) 1 = true := by unfold aer at hb; rw [hL] at hb; exact hb
 have g : ∀ a,(e.cas (aaV (aam c) t) 1 2).gt a = e.gt a := fun a =>by rw [anA,if_neg (fun k =>hb2 k.1)]
 unfold afg
 rw [if_neg hb,hL]
 exact Qs.em (e' := e.cas (aaV (aam c) t) 1 2) ⟨fun t =>g _,fun t =>g _,fun t =>g _,g _,rfl,[],by show e.evs = _; simp,fun x hx =>by cases hx⟩ (by omega)
theorem azj (hd : DecOk c) (hl : (e.m.cells.length : Int) = aaM c) (hN : 0 ≤ e.gt 0 ∧ e.gt 0 ≤ 1000000) (ht : c.tasks ≤ e.gt 0) : Lw c e (abV e) v v := fun m vs hv h =>by
 obtain ⟨rl,ts,la⟩ := h
 have := la.next (n := e.gt 0 + 1) (by show e.gt 0 ≤ _; omega) ht
 rw [aoz hv]
 refine ⟨rl,ts,?_⟩
 have z0 : ∀ {t f : Int},0 ≤ f ∧ f < 5 → f ≠ 1 → (abV e).gt (acP (aam c) t f) = e.gt (acP (aam c) t f) := fun {t f} hf hf1 =>by
  show (e.pt 6 0 _).gt _ = _
  rw [afx,if_neg]
  intro k
  have := avP hd (t := t) hf hf1 (by omega)
  rw [k.1,aey] at this
  omega
 have e0 : (abV e).gt 0 = e.gt 0 + 1 := by
  have := agj hd
  have h4 := hd.h
  have h5 := hd.t
  show (e.pt 6 0 _).gt 0 = _
  rw [afx,if_pos ⟨rfl,Int.le_refl 0,by rw [hl]; unfold aaM; omega⟩,agb (by omega)]
 have e4 : ahW c (abV e) ts vs = { ahW c e ts vs with N := e.gt 0 + 1 } := by
  unfold ahW
  rw [e0,show Stt c (abV e) = Stt c e from funext fun t =>z0 (f := 0) (by omega) (by omega),show Jo c (abV e) = Jo c e from funext fun t =>z0 (f := 2) (by omega) (by omega)]
  rfl
 rw [e4]; exact this
theorem axb (hd : DecOk c) (hl : (e.m.cells.length : Int) = aaM c) (hN : 0 ≤ e.gt 0 ∧ e.gt 0 ≤ 1000000) (ht : e.gt 0 < c.tasks) {p q : Int} : Lw c e ((abV e).pr (e.gt 0) (axX p q)) (l,.n) (l,.p (e.gt 0)) := fun m vs hv h =>by
 obtain ⟨rl,ts,la⟩ := h
 have h1 : (ahW c e ts vs).hd m = l := by show (vs m).1 = _; rw [hv]
 have h2 : (ahW c e ts vs).ph m = .n := by show (vs m).2 = _; rw [hv]
 have := la.alloc (m := m) ht (l := l) (fun x hx =>by rw [h1]; exact hx) (by have := la.nd m; rw [h1] at this; exact this) h2
 have z0 : ∀ {t f : Int},0 ≤ f ∧ f < 5 → f ≠ 1 → (abV e).gt (acP (aam c) t f) = e.gt (acP (aam c) t f) := fun {t f} hf hf1 =>by
  show (e.pt 6 0 _).gt _ = _
  rw [afx,if_neg]
  intro k
  have := avP hd (t := t) hf hf1 (by omega)
  rw [k.1,aey] at this
  omega
 have e0 : (abV e).gt 0 = e.gt 0 + 1 := by
  have := agj hd
  have h4 := hd.h
  have h5 := hd.t
  show (e.pt 6 0 _).gt 0 = _
  rw [afx,if_pos ⟨rfl,Int.le_refl 0,by rw [hl]; unfold aaM; omega⟩,agb (by omega)]
 have tk : TOk c (e.gt 0) := ⟨hN.1,ht⟩
 have r1 : rcw ((abV e).pr (e.gt 0) (axX p q)) = upd (rcw e) (e.gt 0) (-1) := funext fun x =>by
  by_cases hx : x = e.gt 0
  ·rw [hx,abf]
   show (if 0 ≤ e.gt 0 then (((abV e).pr (e.gt 0) (axX p q)).rc (e.gt 0)).waiting else -1) = -1
   rw [if_pos hN.1,aqB (e := abV e) tk rl]; rfl
  ·rw [aba hx]; unfold rcw
   split
   ·rename_i h0; rw [ayK hN.1 hx h0]; rfl
   ·rfl
 have r2 : rcs ((abV e).pr (e.gt 0) (axX p q)) = upd (rcs e) (e.gt 0) false := funext fun x =>by
  by_cases hx : x = e.gt 0
  ·rw [hx,abf]
   show (if 0 ≤ e.gt 0 then (((abV e).pr (e.gt 0) (axX p q)).rc (e.gt 0)).started else false) = false
   rw [if_pos hN.1,aqB (e := abV e) tk rl]; rfl
  ·rw [aba hx]; unfold rcs
   split
   ·rename_i h0; rw [ayK hN.1 hx h0]; rfl
   ·rfl
 refine ⟨by show ((e.recs.set _ _).length : Int) = _; rw [List.length_set]; exact rl,upd ts (e.gt 0) (.alloc m),?_⟩
 rw [avz]
 have e4 : ({ ahW c ((abV e).pr (e.gt 0) (axX p q)) (upd ts (e.gt 0) (.alloc m)) vs with hd := ait (fun m =>(vs m).1) m (l,Ph.p (e.gt 0)).1,ph := ait (fun m =>(vs m).2) m (l,Ph.p (e.gt 0)).2 } : Ab) = { ahW c e ts vs with N := e.gt 0 + 1,st := upd (rcs e) (e.gt 0) false,wa := upd (rcw e) (e.gt 0) (-1),ts := upd ts (e.gt 0) (.alloc m),hd := ait (fun m =>(vs m).1) m l,ph := ait (fun m =>(vs m).2) m (.p (e.gt 0)) } := by
  unfold ahW
  rw [r1,r2,show ((abV e).pr (e.gt 0) (axX p q)).gt 0 = e.gt 0 + 1 from e0,show Stt c ((abV e).pr (e.gt 0) (axX p q)) = Stt c e from funext fun t =>z0 (f := 0) (by omega) (by omega),show Jo c ((abV e).pr (e.gt 0) (axX p q)) = Jo c e from funext fun t =>z0 (f := 2) (by omega) (by omega)]
  rfl
 rw [e4]; exact this
end
end
def vwR (r : RunS) : Vw := match r.c with
 | .next =>(r.stack,.n)
 | .s2 _ =>(r.stack,.p r.id)
 | .s3 _ =>(r.stack,.n)
 | .s4 _ =>(r.stack,.n)
 | .s5 =>(r.stack,.n)
 | .j2 =>(r.stack,.j (aaB r.stack) r.child)
 | .j3 =>(r.stack.dropLast,.b (aaB r.stack) r.child)
 | .j4 =>(r.stack.dropLast,.n)
 | .j5 _ =>(r.stack.dropLast,.n)
 | .j6 =>(r.stack.dropLast,.r (aaB r.stack))
 | .j7 =>(r.stack,.n)
 | .f2 =>(r.stack.dropLast,.f (aaB r.stack))
 | .f3 =>(r.stack.dropLast,.g (aaB r.stack))
 | .f4 .l1 =>(r.stack.dropLast,.h (aaB r.stack) r.waiter)
 | .f4 .l2 =>(r.stack.dropLast,.h (aaB r.stack) r.waiter)
 | .f4 .l3 =>(r.stack.dropLast,.n)
 | .f4 (.l4 _ _) =>(r.stack.dropLast,.n)
 | .f5 _ _ =>(r.stack.dropLast,.n)
 | .f6 =>(r.stack.dropLast,.n)
def vwO : Rs RunS → Vw
 | .go r =>vwR r
 | .fin _ _ =>([],.n)
section
variable {c : Cfg} {e e' : EnvP} {w : Int} {v : Vw}
def aAI (c : Cfg) (e : EnvP) (v : Vw) (o : Rs RunS × EnvP) : Prop := Lw c e o.2 v (vwO o.1) ∧ o.1.Q (fun r =>r.stack ≠ []) fun _ _ =>True
theorem aAI.ite {P : Prop} [Decidable P] {a b : Rs RunS × EnvP} (h1 : P → aAI c e v a) (h2 : ¬ P → aAI c e v b) : aAI c e v (if P then a else b) := by
 split
 ·exact h1 ‹_›
 ·exact h2 ‹_›
theorem ayg {l : List Int} (h : l ≠ []) : l.dropLast ++ [aaB l] = l := by
 have e1 : aaB l = l.getLast h := by unfold aaB; rw [List.getLast?_eq_some_getLast h]; rfl
 rw [e1]
 exact List.dropLast_concat_getLast h
theorem ax7 {l : List Int} (h : l ≠ []) : aaB l ∈ l := by
 have h1 : aaB l ∈ l.dropLast ++ [aaB l] := by simp
 rwa [ayg h] at h1
theorem apz {r : RunS} (h : Lw c e e' v (r.stack.dropLast,.n)) (hs : r.stack ≠ []) : aAI c e v (agU r e') := by
 unfold agU aAI
 by_cases h1 : r.stack.length = 1
 ·rw [if_pos h1]
  have : r.stack.dropLast = [] := List.eq_nil_of_length_eq_zero (by rw [List.length_dropLast]; omega)
  rw [this] at h
  exact ⟨h,trivial⟩
 ·rw [if_neg h1]
  refine ⟨h,fun k =>?_⟩
  have : r.stack.dropLast.length = 0 := by rw [show r.stack.dropLast = [] from k]; rfl
  rw [List.length_dropLast] at this
  have : r.stack.length ≠ 0 := fun k =>hs (List.eq_nil_of_length_eq_zero k)
  omega
theorem ayJ {t : Int} {r : RecP} (ht : TOk c t) (hr : (e.recs.length : Int) = c.tasks) : rcs (e.pr t r) t = r.started := by
 unfold rcs; rw [if_pos ht.1,aqB ht hr]
theorem ayI {t : Int} {r : RecP} (ht : TOk c t) (hr : (e.recs.length : Int) = c.tasks) : rcw (e.pr t r) t = r.waiting := by
 unfold rcw; rw [if_pos ht.1,aqB ht hr]
theorem aCN {t : Int} (ht : TOk c t) : rcs e t = (e.rc t).started := if_pos ht.1
theorem aCV {a o x : Int} (hm : ¬ e.hit a o = true) : Qs c e (e.cas a o x) := by
 have g : ∀ b,(e.cas a o x).gt b = e.gt b := fun b =>by rw [anA,if_neg (fun k =>hm k.1)]
 exact ⟨fun t =>g _,fun t =>g _,fun t =>g _,g _,rfl,[],by show e.evs = _; simp,fun x hx =>by cases hx⟩
theorem aC0 {a o x : Int} (hm : e.hit a o = true) : e.cas a o x = e.pt 3 a x := by
 show e.pt 3 _ (if e.m.gt _ = o then x else _) = _
 rw [if_pos (awE hm).1]
theorem aHn (h : DecOk c) {t f o : Int} (hf : 0 ≤ f ∧ f < 5) (hm : e.hit (acP (aam c) t f) o = true) : TOk c t := by
 have h1 := (awE hm).2
 have e1 := adO h (t := t) hf
 by_cases ht : 0 ≤ t ∧ t < c.tasks
 ·exact ht
 ·rw [e1,if_neg ht] at h1; omega
theorem aBp (hd : DecOk c) {t : Int} {l : List Int} {r : RecP} (ht : TOk c t) (hr : (e.recs.length : Int) = c.tasks) (hin : t ∈ l) (hs : r.started = (e.rc t).started) {p : Ph} (hp : p = .n ∨ p = .j t r.waiting) : Lw c e (e.pr t r) (l,.n) (l,p) :=
 aCM hd ht (apj.pr ht) hin rfl (by rw [ayJ ht hr,aCN ht,hs]) rfl rfl rfl (by rw [ayI ht hr]; exact hp)
theorem ayP (hd : DecOk c) {t k x : Int} {l : List Int} {r : RecP} (ht : TOk c t) (hr : (e.recs.length : Int) = c.tasks) (hin : t ∈ l) (hs : r.started = (e.rc t).started) {p : Ph} (hp : p = .n ∨ p = .j t r.waiting) : Lw c e ((e.pt k (aeJ (aam c) t) x).pr t r) (l,.n) (l,p) :=
 aCM hd ht ((apj.wt hd).pr ht) hin (alT hd (f := 0) (by omega) (by omega) (by omega)) (by rw [ayJ (e := e.pt k (aeJ (aam c) t) x) ht hr,aCN ht,hs]) rfl rfl rfl (by rw [ayI (e := e.pt k (aeJ (aam c) t) x) ht hr]; exact hp)
theorem aH0 {t : Int} {l : List Int} {v' : Vw} (hf : ¬ TOk c t) : Lw c e e (l,.f t) v' := fun m vs hv h =>by
 obtain ⟨rl,ts,la⟩ := h
 have := la.ph m
 have e2 : (ahW c e ts vs).ph m = .f t := by show (vs m).2 = _; rw [hv]
 rw [e2] at this
 exact absurd this.1 hf
theorem aHI (hf : ∀ x,v.2 = .f x → ¬ TOk c x) : Lw c e e v ([],.n) := by
 obtain ⟨l,p⟩ := v
 cases p with
 | f t =>exact aH0 (hf t rfl)
 | _ =>exact .drop (fun x hx =>by cases hx) (fun _ =>.nil) (fun x k =>by cases k)
theorem aFy {x : RecP} {i : Ins} : (auc x i).started = x.started := by
 unfold auc
 repeat' split
 all_goals rfl
theorem aG6 {t : Int} {r : RunS} (h : MI c e) (hl : (e.m.cells.length : Int) = aaM c) (hN : 0 ≤ e.gt 0 ∧ e.gt 0 ≤ 1000000) (hr : (e.recs.length : Int) = c.tasks) (ht : TOk c t) (hc : r.c = .next) (hs : r.stack ≠ []) (htop : aaB r.stack = t) : aAI c e (r.stack,.n) (aql w e r t (e.rc t) (e.prog (e.rc t))) := by
 have hp : vwR r = (r.stack,.n) := by unfold vwR; rw [hc]
 have hin : t ∈ r.stack := htop ▸ ax7 hs
 have hgo : ∀ {e' : EnvP},Lw c e e' (r.stack,.n) (r.stack,.n) → aAI c e (r.stack,.n) (.go r,e') := fun h =>⟨by show Lw c e _ _ (vwR r); rw [hp]; exact h,hs⟩
 unfold aql
 rw [h.l]
 refine .ite (fun _ =>hgo (ayP (r := { e.rc t with waiting := -1 }) h.d ht hr hin rfl (.inl rfl))) fun _ =>?_
 refine .ite (fun _ =>⟨?_,hs⟩) fun _ =>?_
 ·show Lw c e _ _ (r.stack.dropLast,.f (aaB r.stack))
  have := aFu (e := e) (k := 2) (l := r.stack.dropLast) h.d hl ht
  rw [← htop,ayg hs] at this
  rw [← htop]; exact this
 refine .ite (fun _ =>hgo (aBp h.d ht hr hin aFy (.inl rfl))) fun _ =>?_
 refine .ite (fun _ =>?_) fun _ =>?_
 ·have e1 : wi (e.gt 0) = e.gt 0 := aaF (aan (by omega))
  rw [e1]
  refine .ite (fun hn =>⟨?_,hs⟩) fun hn =>hgo ?_
  ·have hn : TOk c (e.gt 0) := by unfold IsT at hn; rw [h.cc] at hn; exact hn
   refine Lw.trans (aBp (r := { e.rc t with pc := wi ((e.rc t).pc + 1),kids := (e.rc t).kids ++ [e.gt 0] }) h.d ht hr hin rfl (.inl rfl)) ?_
   exact axb (e := e.pr t _) h.d hl hN hn.2
  ·have hn : ¬ TOk c (e.gt 0) := by unfold IsT at hn; rw [h.cc] at hn; exact hn
   refine Lw.em (by omega) (Lw.trans (aBp (r := { e.rc t with pc := wi ((e.rc t).pc + 1),kids := (e.rc t).kids ++ [-1] }) h.d ht hr hin rfl (.inl rfl)) ?_)
   refine azj (e := e.pr t _) h.d hl hN ?_
   show c.tasks ≤ e.gt 0
   exact Int.not_lt.1 fun k =>hn ⟨hN.1,k⟩
 ·refine .ite (fun _ =>hgo (aBp (r := { e.rc t with pc := wi ((e.rc t).pc + 1) }) h.d ht hr hin rfl (.inl rfl))) fun _ =>⟨?_,hs⟩
  have := ayP (e := e) (k := 2) (x := wu (wi (aed (e.rc t).kids (acl (e.prog (e.rc t)) (e.rc t).pc).a + 1))) (r := { e.rc t with pc := wi ((e.rc t).pc + 1),waiting := aed (e.rc t).kids (acl (e.prog (e.rc t)) (e.rc t).pc).a }) h.d ht hr hin rfl (.inr rfl)
  rw [← htop] at this ⊢
  exact this
theorem aIB {r : RunS} (h : MI c e) (hl : (e.m.cells.length : Int) = aaM c) (hN : 0 ≤ e.gt 0 ∧ e.gt 0 ≤ 1000000) (hrl : (e.recs.length : Int) = c.tasks) (hr : aFI c r) (hs : r.stack ≠ []) : aAI c e (vwR r) (as2 w e r) := by
 unfold as2
 refine .ite (fun ht =>⟨aHI fun x hx =>?_,trivial⟩) fun ht =>?_
 ·unfold IsT at ht
  rw [h.cc] at ht
  revert hx
  obtain ⟨stack,id,child,level,waiter,k⟩ := r
  cases k with
  | f2 =>intro k; cases k; exact ht
  | f4 s =>cases s <;> (intro k; cases k)
  | _ =>intro k; cases k
 replace ht : IsT e (aaB r.stack) := Classical.not_not.1 ht
 unfold IsT at ht
 rw [h.cc] at ht
 obtain ⟨stack,id,child,level,waiter,k⟩ := r
 replace ht : TOk c (aaB stack) := ht
 replace hs : stack ≠ [] := hs
 have hst := ayg hs
 have hin := ax7 hs
 have ht2 : 0 ≤ aaB stack ∧ aaB stack < c.tasks := ht
 have htt := h.d.t
 show aAI c e _ (aee w e _ (aaB stack))
 cases k with
 | next =>exact aG6 h hl hN hrl ht rfl hs rfl
 | s2 s =>
  obtain ⟨h1,h2⟩ := hr
  simp only [aee,aeX]
  have hi : ¬ ¬ IsT e id := by unfold IsT; rw [h.cc]; exact fun h =>h h1
  rw [if_neg hi,h.l]
  cases s with
  | l1 =>exact ⟨Lw.q (.wr h.d (ajT h.d)) .refl,hs⟩
  | l2 =>exact ⟨Lw.q (.since h.d) .refl,hs⟩
  | l3 =>exact ⟨aA4 h.d hl h1,hs⟩
 | s3 s =>
  have := apq (w := w) (v := level) (x := id) h s hr.2
  simp only [aee]
  revert this
  rcases abt w level id e s with ⟨o,e'⟩
  intro this
  cases o with
  | go s =>exact ⟨Lw.q this .refl,hs⟩
  | fin c0 v0 =>
   simp only
   split
   ·exact ⟨Lw.q this .refl,hs⟩
   ·exact ⟨Lw.q this .refl,hs⟩
 | s4 s =>
  have := as8 (w := w) (v := level) h s
  simp only [aee]
  revert this
  rcases ado w level e s with ⟨o,e'⟩
  intro this
  cases o with
  | go s =>exact ⟨Lw.q this .refl,hs⟩
  | fin c0 v0 =>exact ⟨Lw.q this .refl,hs⟩
 | s5 =>
  simp only [aee]
  split
  ·rename_i hb
   exact ⟨aoq h.d hl h.l hr hb,by show stack ++ [id] ≠ []; simp⟩
  ·rename_i hb
   exact ⟨Lw.q (aop h.d h.l hb) .refl,hs⟩
 | j2 =>
  simp only [aee]
  rw [h.l]
  refine ⟨?_,hs⟩
  have := aEM (e := e) (k := 2) (l := stack.dropLast) (u := child) h.d hl ht
  rw [hst] at this
  exact this
 | j3 =>
  simp only [aee]
  rw [h.l]
  have e1 : wu (wi (aaB stack + 1)) = aaB stack + 1 := by rw [aaF (x := aaB stack + 1) (aan (by omega)),agb (by omega)]
  rw [e1]
  refine .ite (fun hb =>⟨?_,hs⟩) fun hb =>⟨?_,hs⟩
  ·rw [aC0 hb]
   exact Lw.em (by omega) (aHo h.d hl (aHn h.d (f := 2) (by omega) hb))
  ·exact Lw.qr (aCV hb) aEL
 | j4 =>exact ⟨Lw.q .lk .refl,hs⟩
 | j5 s =>
  have := aF9 (w := w) (v := level) h s hr
  simp only [aee]
  revert this
  rcases aeR w level e s with ⟨o,e'⟩
  intro this
  cases o with
  | go s =>exact ⟨Lw.q this .refl,hs⟩
  | fin c0 v0 =>exact apz (Lw.em (by omega) (Lw.q this .refl)) hs
 | j6 =>
  simp only [aee]
  rw [h.l]
  refine ⟨?_,hs⟩
  have := aFH (e := e) (k := 2) (l := stack.dropLast) h.d hl ht
  rw [hst] at this
  exact this
 | j7 =>
  simp only [aee]
  rw [h.l]
  exact ⟨Lw.em (by omega) (ayP (r := { e.rc (aaB stack) with waiting := -1 }) h.d ht hrl hin rfl (.inl rfl)),hs⟩
 | f2 =>
  simp only [aee]
  rw [h.l]
  have cz : ∀ {e1 : EnvP} {q : Int → Bool},(e1.evs = e.evs) → q 10 = false → abP q (e1.em 10 w (aaB stack) 0 0).evs (aaB stack) = abP q e1.evs (aaB stack) := fun {e1 q} _ hq =>by
   show abP q (e1.evs ++ [_]) _ = _
   rw [aei,ae1,hq,if_neg (by rintro ⟨_,h⟩; cases h),Nat.add_zero]
  have co : ∀ {e1 : EnvP},abP kFn (e1.em 10 w (aaB stack) 0 0).evs (aaB stack) = abP kFn e1.evs (aaB stack) + 1 := fun {e1} =>by
   show abP kFn (e1.evs ++ [_]) _ = _
   rw [aei,ae1,if_pos ⟨rfl,by decide⟩]
  refine .ite (fun hb =>apz ?_ hs) fun hb =>⟨?_,hs⟩
  ·rw [aC0 hb]
   refine Lw.trans (aDV (k := 3) (x := 4294967296) (v := (stack.dropLast,.f (aaB stack))) h.d hl ht (by omega) (by omega) fun a m la hT hw hh hp w hw k =>?_) (aC4 (e := e.pt 3 (acO (aam c) (aaB stack)) 4294967296) (v := (stack.dropLast,.f (aaB stack))) (s := fun _ =>.done) (apj.em (.inl rfl)) rfl ht ?_ rfl rfl rfl (cz rfl (by decide)) (cz rfl (by decide)) co (.inr ⟨fun _ =>rfl,rfl⟩))
   ·have hw : 0 ≤ w ∧ w < c.tasks := hw
    omega
   ·rw [show Jo c (e.pt 3 (acO (aam c) (aaB stack)) 4294967296) (aaB stack) = 4294967296 from asj h.d hl (f := 2) (by omega) ht]
    omega
  ·refine Lw.trans (Lw.q (aCV (x := 4294967296) hb) .refl) (aC4 (e := e.cas (acO (aam c) (aaB stack)) 0 4294967296) (v := (stack.dropLast,.f (aaB stack))) (s := fun m =>.fg m) (apj.em (.inl rfl)) rfl ht ?_ rfl rfl rfl (cz rfl (by decide)) (cz rfl (by decide)) co (.inl ⟨fun _ =>rfl,rfl⟩))
   intro k
   have g : (e.cas (acO (aam c) (aaB stack)) 0 4294967296).gt (acO (aam c) (aaB stack)) = e.gt (acO (aam c) (aaB stack)) := by rw [anA,if_neg (fun k =>hb k.1)]
   replace k : e.gt (acO (aam c) (aaB stack)) = 0 := g ▸ k
   apply hb
   have hrg := aDo h.d (f := 2) (by omega) ht
   have hrg : 0 ≤ acO (aam c) (aaB stack) ∧ acO (aam c) (aaB stack) < aaM c := hrg
   show decide ((0 ≤ acO (aam c) (aaB stack) ∧ acO (aam c) (aaB stack) < (e.m.cells.length : Int)) ∧ ae7 e.m.cells (acO (aam c) (aaB stack)) = 0) = true
   rw [decide_eq_true_iff]
   refine ⟨by omega,?_⟩
   have k2 : e.m.gt (acO (aam c) (aaB stack)) = 0 := k
   unfold MemV.gt at k2
   rw [if_pos (by omega)] at k2
   exact k2
 | f3 =>
  simp only [aee]
  rw [h.l]
  refine .ite (fun hn =>⟨?_,hs⟩) fun _ =>apz (Lw.q .lk (.drop (fun x hx =>hx) (fun h =>h) (fun x k =>by cases k))) hs
  unfold IsT at hn
  rw [h.cc] at hn
  exact Lw.qr .lk (aEQ h.d hn (h.p _) rfl)
 | f4 s =>
  obtain ⟨h1,h2⟩ := hr
  have h1 : TOk c waiter := h1
  have hi : ¬ ¬ IsT e waiter := by unfold IsT; rw [h.cc]; exact fun h =>h h1
  simp only [aee]
  cases s with
  | l1 =>
   simp only [adl]
   rw [if_neg hi,h.l]
   exact ⟨Lw.q (.since h.d) .refl,hs⟩
  | l2 =>
   simp only [adl]
   rw [h.l]
   exact ⟨aCf h.d hl h1,hs⟩
  | l3 =>exact ⟨Lw.q .lk .refl,hs⟩
  | l4 v0 s =>
   have := apq (w := w) (v := v0) (x := waiter) h s h2
   simp only [adl]
   revert this
   rcases abt w v0 waiter e s with ⟨o,e'⟩
   intro this
   cases o with
   | go s =>exact ⟨Lw.q this .refl,hs⟩
   | fin c0 v1 =>
    simp only
    split
    ·exact ⟨Lw.q this .refl,hs⟩
    ·exact ⟨Lw.q this .refl,hs⟩
 | f5 v0 s =>
  have := as8 (w := w) (v := v0) h s
  simp only [aee]
  revert this
  rcases ado w v0 e s with ⟨o,e'⟩
  intro this
  cases o with
  | go s =>exact ⟨Lw.q this .refl,hs⟩
  | fin c0 v0 =>exact apz (Lw.q this .refl) hs
 | f6 =>
  simp only [aee]
  refine .ite (fun hb =>⟨aoq h.d hl h.l hr hb,by show stack.dropLast ++ [waiter] ≠ []; simp⟩) fun hb =>apz (Lw.q (aop h.d h.l hb) .refl) hs
def vwW (k : WorkS) : Vw := match k.c with
 | .t7 s =>vwR s
 | _ =>([],.n)
def aAt (k : WorkS) : Prop := match k.c with
 | .t7 s =>s.stack ≠ []
 | _ =>True
def asT (c : Cfg) (e : EnvP) (v : Vw) (o : WorkS × EnvP) : Prop := Lw c e o.2 v (vwW o.1) ∧ aAt o.1
theorem asT.ite {P : Prop} [Decidable P] {a b : WorkS × EnvP} (h1 : P → asT c e v a) (h2 : ¬ P → asT c e v b) : asT c e v (if P then a else b) := by
 split
 ·exact h1 ‹_›
 ·exact h2 ‹_›
theorem asT.ite1 {P : Prop} [Decidable P] {a b : WorkS} {e' : EnvP} (h1 : P → asT c e v (a,e')) (h2 : ¬ P → asT c e v (b,e')) : asT c e v (if P then a else b,e') := by
 split
 ·exact h1 ‹_›
 ·exact h2 ‹_›
theorem aDh {k : WorkS} (hk : aAt k) : aAt { k with c := abT w e k } ∧ vwW { k with c := abT w e k } = vwW k := by
 obtain ⟨a,b,d,x,g⟩ := k
 cases g with
 | top =>
  unfold abT
  simp only
  split
  ·exact ⟨trivial,rfl⟩
  ·exact ⟨trivial,rfl⟩
 | _ =>exact ⟨hk,rfl⟩
theorem aF5 {k : WorkS} (h : MI c e) (hl : (e.m.cells.length : Int) = aaM c) (hN : 0 ≤ e.gt 0 ∧ e.gt 0 ≤ 1000000) (hrl : (e.recs.length : Int) = c.tasks) (hk : asU c k) (hh : aAt k) : asT c e (vwW k) (acy w e k) := by
 have hB := (auE (w := w) h hk).1
 have hB2 := aDh (w := w) (e := e) hh
 have z : ∀ {e' : EnvP},Qs c e e' → Lw c e e' ([],.n) ([],.n) := fun h =>Lw.q h .refl
 unfold acy
 revert hB hB2
 generalize abT w e k = kc
 intro h1 ⟨h2,h3⟩
 rw [← h3]
 cases kc with
 | top =>exact ⟨by rw [h3]; exact .refl,hh⟩
 | t1 t s =>
  have := aDr (w := w) (t := t) h s h1.2
  simp only
  revert this
  rcases abc w t e s with ⟨o,e'⟩
  intro this
  cases o with
  | go s =>exact ⟨z this,trivial⟩
  | fin c0 v0 =>exact ⟨z this,trivial⟩
 | t2 s =>
  cases s with
  | pop s =>
   have := aHe (w := w) h s
   simp only [aiS]
   revert this
   rcases agw w e s with ⟨o,e'⟩
   intro this
   cases o with
   | go s =>exact ⟨z this,trivial⟩
   | fin c0 v0 =>
    simp only
    by_cases hc : c0 = 2
    ·rw [if_pos hc]; exact ⟨z this,trivial⟩
    ·rw [if_neg hc]; exact ⟨z this,trivial⟩
  | claim t =>
   simp only [aiS]
   by_cases hb : aer t e = true
   ·rw [if_pos hb]
    exact ⟨aoq (l := []) h.d hl h.l h1 hb,by show [t] ≠ []; simp⟩
   ·rw [if_neg hb]
    exact ⟨z (aop h.d h.l hb),trivial⟩
 | t3 s =>
  have := aFr (w := w) h s h1
  simp only
  revert this
  rcases abk w e s with ⟨o,e'⟩
  intro this
  cases o with
  | go s =>exact ⟨z this,trivial⟩
  | fin c0 v0 =>
   refine .ite1 (fun hc =>⟨z this,trivial⟩) fun _ =>.ite1 (fun _ =>⟨z this,trivial⟩) fun _ =>?_
   unfold ar5
   split
   ·exact ⟨z this,trivial⟩
   ·exact ⟨z this,trivial⟩
 | t4 s =>
  have := aEj (c := c) (w := w) (e := e) s
  simp only
  revert this
  rcases aiw w e s with ⟨o,e'⟩
  intro this
  cases o with
  | go s =>exact ⟨z this,trivial⟩
  | fin c0 v0 =>exact .ite1 (fun hc =>⟨z this,trivial⟩) fun _ =>⟨z this,trivial⟩
 | t5 s =>
  have := aDD (w := k.victim) (v := k.level) h s
  simp only
  rw [h.l]
  revert this
  rcases ag5 (aaq (aam c) k.victim k.level) e s with ⟨o,e'⟩
  intro this
  cases o with
  | go s =>exact ⟨z this,trivial⟩
  | fin c0 v0 =>exact .ite (fun hc =>⟨z (this.em (by omega)),trivial⟩) fun _ =>.ite (fun _ =>⟨z this,trivial⟩) fun _ =>⟨z this,trivial⟩
 | t6 =>
  have h1 : TOk c k.x := h1
  simp only
  by_cases hb : aer k.x e = true
  ·rw [if_pos hb]
   exact ⟨aoq (l := []) h.d hl h.l h1 hb,by show [k.x] ≠ []; simp⟩
  ·rw [if_neg hb]
   exact ⟨z (aop h.d h.l hb),trivial⟩
 | t7 s =>
  have := aIB (w := w) h hl hN hrl h1 h2
  simp only
  revert this
  rcases as2 w e s with ⟨o,e'⟩
  intro this
  cases o with
  | go s =>exact this
  | fin c0 v0 =>exact ⟨this.1,trivial⟩
 | t8 s =>
  have := aDL (w := w) h s
  simp only
  revert this
  rcases aeL w e s with ⟨o,e'⟩
  intro this
  cases o with
  | go s =>exact ⟨z this,trivial⟩
  | fin c0 v0 =>exact ⟨z this,trivial⟩
 | t9 s =>
  have := ayF (w := k.victim) (v := k.level) (a := k.victim) (b := k.level) h s
  simp only
  rw [h.l]
  revert this
  rcases aeW (aaC (aam c) k.victim) k.level (aaq (aam c) k.victim k.level) e s with ⟨o,e'⟩
  intro this
  cases o with
  | go s =>exact ⟨z this,trivial⟩
  | fin c0 v0 =>exact ⟨z this,trivial⟩
def vwC (k : ClieS) : Vw := match k.c with
 | .n4 =>([],.p k.id)
 | .n5 =>([],.p k.id)
 | .n6 =>([],.p k.id)
 | .a6 _ =>([],.p k.id)
 | .n7 =>([],.q k.id)
 | _ =>([],.n)
theorem Lw.of_q {t : Int} {l : List Int} {v' : Vw} (H : TOk c t → Lw c e e' (l,.q t) v') : Lw c e e' (l,.q t) v' := fun m vs hv h =>by
 obtain ⟨ts,la⟩ := h.la
 have := la.ph m
 have e2 : (ahW c e ts vs).ph m = .q t := by show (vs m).2 = _; rw [hv]
 rw [e2] at this
 exact H this.1 m vs hv h
theorem aHS {k : ClieS} {me : Int} (h : MI c e) (hl : (e.m.cells.length : Int) = aaM c) (hN : 0 ≤ e.gt 0 ∧ e.gt 0 ≤ 1000000) (hrl : (e.recs.length : Int) = c.tasks) (hk : avE c k) : Lw c e (am0 c.subs me e k).2.2 (vwC k) (vwC (am0 c.subs me e k).2.1) := by
 have z : ∀ {e' : EnvP},Qs c e e' → Lw c e e' ([],.n) ([],.n) := fun h =>Lw.q h .refl
 have ite : ∀ {P : Prop} [Decidable P] {a b : Bool × ClieS × EnvP} {v : Vw},(P → Lw c e a.2.2 v (vwC a.2.1)) → (¬ P → Lw c e b.2.2 v (vwC b.2.1)) → Lw c e (if P then a else b).2.2 v (vwC (if P then a else b).2.1) := fun h1 h2 =>by
  split
  ·exact h1 ‹_›
  ·exact h2 ‹_›
 unfold am0
 refine ite (fun _ =>.refl) fun hi =>?_
 obtain ⟨i,id,acc,g⟩ := k
 obtain ⟨h0,h1⟩ := hk
 show Lw c e (abQ c.subs me e ⟨i,id,acc,g⟩ (abC c.subs i)).2.2 _ (vwC (abQ c.subs me e ⟨i,id,acc,g⟩ (abC c.subs i)).2.1)
 have e1 : wi (e.gt 0) = e.gt 0 := aaF (aan (by omega))
 cases g with
 | n1 =>
  simp only [abQ]
  by_cases hh : e.hit 1 0 = true
  ·rw [if_pos hh]; exact z (atV h)
  ·rw [if_neg hh]; exact z (atV h)
 | a1 =>
  simp only [abQ]
  by_cases hh : e.hit 1 0 = true
  ·rw [if_pos hh]; exact z (atV h)
  ·rw [if_neg hh]; exact z (atV h)
 | n2 =>
  simp only [abQ]
  exact ite (fun _ =>Lw.em (by omega) (z .lk)) fun _ =>z .lk
 | n3 =>
  simp only [abQ]
  rw [e1]
  refine ite (fun hn =>?_) fun hn =>Lw.em (by omega) ?_
  ·have hn : TOk c (e.gt 0) := by unfold IsT at hn; rw [h.cc] at hn; exact hn
   exact axb h.d hl hN hn.2
  ·have hn : ¬ TOk c (e.gt 0) := by unfold IsT at hn; rw [h.cc] at hn; exact hn
   exact azj h.d hl hN (Int.not_lt.1 fun k =>hn ⟨hN.1,k⟩)
 | n4 =>
  simp only [abQ]
  rw [h.l]
  exact Lw.q (.wr h.d (ajT h.d)) .refl
 | n5 =>
  simp only [abQ]
  rw [h.l]
  exact Lw.q (.since h.d) .refl
 | n6 =>
  have h1 : TOk c id := h1
  have := awC (d := (abC c.subs i).deadline) (t := id) h .l1
  simp only [abQ]
  revert this
  rcases abH (abC c.subs i).deadline id e .l1 with ⟨o,e'⟩
  intro this
  cases o with
  | go s =>exact Lw.q this .refl
  | fin c0 v0 =>exact ite (fun _ =>Lw.trans (Lw.q this .refl) (aus h1)) fun _ =>Lw.q this (.drop (fun x hx =>hx) (fun h =>h) (fun x k =>by cases k))
 | a6 s =>
  have h2 : TOk c id := h1.1
  have := awC (d := (abC c.subs i).deadline) (t := id) h s
  simp only [abQ]
  revert this
  rcases abH (abC c.subs i).deadline id e s with ⟨o,e'⟩
  intro this
  cases o with
  | go s =>exact Lw.q this .refl
  | fin c0 v0 =>exact ite (fun _ =>Lw.trans (Lw.q this .refl) (aus h2)) fun _ =>Lw.q this (.drop (fun x hx =>hx) (fun h =>h) (fun x k =>by cases k))
 | n7 =>
  simp only [abQ]
  rw [h.l]
  exact Lw.of_q fun ht =>aBj h.d hl ht
 | n8 =>
  simp only [abQ]
  exact ite (fun _ =>z (azD h)) fun _ =>z (azD h)
 | n9 =>
  have := as8 (w := me) (v := (abC c.subs i).level) h (.l1 0)
  simp only [abQ]
  revert this
  rcases ado me (abC c.subs i).level e (.l1 0) with ⟨o,e'⟩
  intro this
  cases o with
  | go s =>exact z this
  | fin c0 v0 =>exact z this
 | a9 t =>
  have := as8 (w := me) (v := (abC c.subs i).level) h t
  simp only [abQ]
  revert this
  rcases ado me (abC c.subs i).level e t with ⟨o,e'⟩
  intro this
  cases o with
  | go s =>exact z this
  | fin c0 v0 =>exact z this
end
section
variable {c : Cfg} {N : Nat} {e e' : EnvP} {vs : Nat → Vw} {w : WorkerV MV} {l : ClientV MV} {v : Vw}
theorem Rz.nx (h : Rz c e e') : e'.gt 0 = e.gt 0 := by
 rcases h with h | ⟨t,v,h⟩
 ·exact h.nx
 ·exact h.nx
theorem Rz.evs (h : Rz c e e') : ∃ l,e'.evs = e.evs ++ l := by
 rcases h with h | ⟨t,v,h⟩
 ·obtain ⟨l,hl,_⟩ := h.ev; exact ⟨l,hl⟩
 ·obtain ⟨k,w,o,l,_,hl,_⟩ := h.ev; exact ⟨_,hl⟩
theorem Tr.nx {p q : aq5} (h : Tr c e e' p q) (h0 : 0 ≤ e.gt 0 ∧ e.gt 0 ≤ 1000000) : e'.gt 0 ≤ e.gt 0 + 1 := by
 have al : ∀ {e' : EnvP},Al c e e' → e'.gt 0 ≤ e.gt 0 + 1 := fun h =>by
  rcases h.nx with k | k
  ·rw [k,agb (by omega)]; omega
  ·omega
 cases h with
 | same _ h =>rw [h.nx]; omega
 | drop _ h =>rw [h.nx]; omega
 | al h =>exact al h
 | al1 _ h =>exact al h.a
 | w0 _ _ h =>rw [h.nx]; omega
 | an _ _ h =>rw [h.nx]; omega
theorem Tr.evs {p q : aq5} (h : Tr c e e' p q) : ∃ l,e'.evs = e.evs ++ l := by
 cases h with
 | same _ h =>exact h.evs
 | drop _ h =>exact h.evs
 | al h =>obtain ⟨l,hl,_⟩ := h.ev; exact ⟨l,hl⟩
 | al1 _ h =>obtain ⟨l,hl,_⟩ := h.a.ev; exact ⟨l,hl⟩
 | w0 _ _ h =>exact ⟨[],by rw [h.ev]; simp⟩
 | an _ _ h =>obtain ⟨l,k,w,o,_,_,hl⟩ := h.ev; exact ⟨_,by rw [hl,List.append_assoc]⟩
structure DL (c : Cfg) (N : Nat) (e : EnvP) (vs : Nat → Vw) : Prop where
 ei : EI c (1 + 3 * N) e
 m : MI c e
 n : (e.m.cells.length : Int) = aaM c
 nx : e.gt 0 ≤ N
 li : LI c e vs
def WL (c : Cfg) (N : Nat) (j : Int) (w : WorkerV MV) (v : Vw) : Prop := ∃ k,w = acN (aam c) j k ∧ ahg (1 + 3 * N) (mnC c) k ∧ asU c k ∧ aAt k ∧ vwW k = v
def CL (c : Cfg) (l : ClientV MV) (v : Vw) : Prop := ∃ k,l = aju c.subs c.workers k ∧ avE c k ∧ vwC k = v
theorem WL.next {j : Int} (hw : WL c N j w v) : WL c (N + 1) j w v := by
 obtain ⟨k,h1,h2,h3⟩ := hw
 exact ⟨k,h1,h2.up (by omega),h3⟩
theorem DL.next (h : DL c N e vs) : DL c (N + 1) e vs := ⟨h.ei.up (by omega),h.m,h.n,by have := h.nx; omega,h.li⟩
theorem DL.clk {k : ClkV} (h : DL c N e vs) : DL c N { e with k := k } vs := by
 obtain ⟨rl,ts,la⟩ := h.li
 exact ⟨h.ei.clk,h.m.ex,h.n,h.nx,rl,ts,la⟩
theorem DL.stp (h : DL c N e vs) (hN : N ≤ 100000) (s : Stp 2 e e') {p q : aq5} (t : Tr c e e' p q) {m : Nat} {v' : Vw} (x : Lw c e e' (vs m) v') : DL c (N + 1) e' (ait vs m v') := by
 have s1 := h.ei.stp (by omega) s
 have en : 1 + 3 * N + 3 = 1 + 3 * (N + 1) := by omega
 rw [en] at s1
 have h0 := h.m.p 0
 have h1 := h.nx
 have h2 := t.nx ⟨h0,by omega⟩
 exact ⟨s1,t.i,by rw [(azg s.m h.ei.ct (by omega)).2]; exact h.n,by omega,x m vs rfl h.li⟩
theorem aDi (h : DL c N e vs) (hN : N ≤ 100000) {j : Nat} (hw : WL c N j w (vs j)) :
  aaI (aah w e) fun o =>∃ v',DL c (N + 1) o.2.2.1 (ait vs j v') ∧ WL c (N + 1) j o.2.1 v' ∧ ∃ l,o.2.2.1.evs = e.evs ++ l := by
 obtain ⟨k,rfl,hk,hg,hh,hv⟩ := hw
 rw [← h.ei.many] at hk
 have h0 := h.m.p 0
 have hx := h.nx
 have h1 := avI (w := (j : Int)) h.ei.ok (by omega) k hk
 have h2 := ax3 (w := (j : Int)) h.ei.ok k
 have h3 := ax2 (w := (j : Int)) h.ei.ok k hk (by omega)
 have h4 := aCB (w := (j : Int)) h.m h.n hg
 have h5 := aF5 (w := (j : Int)) h.m h.n ⟨h0,by omega⟩ h.li.rl hg hh
 rw [h.ei.many] at h3
 rw [h.ei.l] at h1
 rw [hv] at h5
 exact ⟨_,h1,_,h.stp hN h2 h4.1 h5.1,⟨_,rfl,h3.up (by omega),h4.2,h5.2,rfl⟩,h4.1.evs⟩
theorem aFD (h : DL c N e vs) (hN : N ≤ 100000) {m : Nat} (hc : CL c l (vs m)) : aaI (aat l e) fun o =>∃ v',DL c (N + 1) o.2.2.1 (ait vs m v') ∧ CL c o.2.1 v' ∧ ∃ l,o.2.2.1.evs = e.evs ++ l := by
 obtain ⟨k,rfl,hk,hv⟩ := hc
 have h0 := h.m.p 0
 have hx := h.nx
 have h1 := awZ (subs := c.subs) (me := c.workers) h.ei.ok (by omega) k hk.1
 have h2 := az2 (subs := c.subs) (me := c.workers) h.ei.ok k
 have h4 := aDc (me := c.workers) h.m h.n hk
 have h5 := aHS (me := c.workers) h.m h.n ⟨h0,by omega⟩ h.li.rl hk
 rw [hv] at h5
 exact ⟨_,h1,_,h.stp hN h2 h4.1 h5,⟨_,rfl,h4.2,rfl⟩,h4.1.evs⟩
theorem aF7 {j : Int} : WL c 0 j (acN (aam c) j ⟨0,0,0,0,.top⟩) ([],.n) := ⟨_,rfl,trivial,trivial,trivial,rfl⟩
theorem aHU : CL c (aju c.subs c.workers ⟨0,0,false,.n1⟩) ([],.n) := ⟨_,rfl,⟨Int.le_refl 0,trivial⟩,rfl⟩
theorem auj (h : DecOk c) : ((akt c).m.cells.length : Int) = aaM c := by
 show ((List.replicate (aaM c).toNat (0 : Int)).length : Int) = _
 have := agj h
 have h4 := h.h
 have h5 := h.t
 rw [List.length_replicate]
 have : 0 ≤ aaM c := by unfold aaM; omega
 omega
theorem aHN (h : DecOk c) : DL c 0 (akt c) fun _ =>([],.n) := by
 have ht := h.t
 refine ⟨aC8 h,aCW h,auj h,by rw [aqS]; exact Int.le_refl 0,?_,fun _ =>.fresh,?_⟩
 ·show ((List.replicate c.tasks.toNat _).length : Int) = _
  rw [List.length_replicate]; omega
 ·have e1 : ahW c (akt c) (fun _ =>.fresh) (fun _ =>([],.n)) = ⟨c.tasks,0,fun _ =>0,fun _ =>0,rcw (akt c),rcs (akt c),fun _ =>0,fun _ =>0,fun _ =>0,fun _ =>.fresh,fun _ =>[],fun _ =>.n⟩ := by
   unfold ahW
   rw [aqS,show Stt c (akt c) = fun _ =>0 from funext fun t =>aqS,show Jo c (akt c) = fun _ =>0 from funext fun t =>aqS]
   rfl
  rw [e1]
  refine aHj fun t h0 h1 =>?_
  show (if 0 ≤ t then ((akt c).rc t).started else false) = false
  rw [if_pos h0]
  have : (akt c).rc t = axV := List.eq_of_mem_replicate (aun (α := RecP) (d := (dfR 26 : TR 26)) ⟨h0,by show t < ((List.replicate c.tasks.toNat axV).length : Int); rw [List.length_replicate]; omega⟩)
  rw [this]; rfl
structure EngI (c : Cfg) (I : Nat → EnvP → List (WorkerV MV) → ClientV MV → Prop) : Prop where
 w : ∀ {N : Nat} {e : EnvP} {ws : List (WorkerV MV)} {cl : ClientV MV} {j : Nat} {w : WorkerV MV},I N e ws cl → N ≤ 100000 → ws[j]? = some w → aaI (aah w e) fun o =>I (N + 1) o.2.2.1 (ws.set j o.2.1) cl ∧ ∃ l,o.2.2.1.evs = e.evs ++ l
 c : ∀ {N : Nat} {e : EnvP} {ws : List (WorkerV MV)} {cl : ClientV MV},I N e ws cl → N ≤ 100000 → aaI (aat cl e) fun o =>I (N + 1) o.2.2.1 ws o.2.1 ∧ ∃ l,o.2.2.1.evs = e.evs ++ l
 n : ∀ {N : Nat} {e : EnvP} {ws : List (WorkerV MV)} {cl : ClientV MV},I N e ws cl → I (N + 1) e ws cl
 k : ∀ {N : Nat} {e : EnvP} {ws : List (WorkerV MV)} {cl : ClientV MV} {k : ClkV},I N e ws cl → I N { e with k := k } ws cl
 ev : ∀ {N : Nat} {e : EnvP} {ws : List (WorkerV MV)} {cl : ClientV MV},I N e ws cl → e.evs.length ≤ 1 + 3 * N
theorem awG {α : Type} {ws : List α} {j : Nat} {w : α} (h : ws[j]? = some w) : j < ws.length := by
 rcases Nat.lt_or_ge j ws.length with k | k
 ·exact k
 ·rw [List.getElem?_eq_none k] at h; cases h
end
noncomputable def aoc (b : List Int) : Option ((List EntV × Unit) × (Unit)) :=
 (lpF (σ := List EntV × Int × Unit) (β := List EntV × Int × Unit) (fun self3 x1 =>
 if (wi (x1.2.1 + 1)) < ((b.length : Nat) : Int) then
 if ((x1.1.length : Nat) : Int) < 65536 then
 if 0 ≤ x1.2.1 ∧ x1.2.1 < ((b.length : Nat) : Int) then
 if 0 ≤ wi (x1.2.1 + 1) ∧ wi (x1.2.1 + 1) < ((b.length : Nat) : Int) then
 if (aiM b (wi (x1.2.1 + 1))) = (aiM b (wi (x1.2.1 + 1))) then
 if (aiM b x1.2.1) = (aiM b x1.2.1) then
 if (Int.tmod (wi (aiM b x1.2.1)) 4) = 1 then
 if (((x1.1.length + ([(⟨(Int.tmod (wi (aiM b x1.2.1)) 4),0⟩ : EntV)] : List EntV).length : Nat)) : Int) < 1000000000000 then
 self3 (x1.1 ++ ([(⟨(Int.tmod (wi (aiM b x1.2.1)) 4),0⟩ : EntV)]),wi (x1.2.1 + 2),())
 else none
 else
 if (Int.tmod (wi (aiM b x1.2.1)) 4) = 3 then
 if (((x1.1.length + ([(⟨(Int.tmod (wi (aiM b x1.2.1)) 4),0⟩ : EntV)] : List EntV).length : Nat)) : Int) < 1000000000000 then
 self3 (x1.1 ++ ([(⟨(Int.tmod (wi (aiM b x1.2.1)) 4),0⟩ : EntV)]),wi (x1.2.1 + 2),())
 else none
 else
 if (((x1.1.length + ([(⟨(Int.tmod (wi (aiM b x1.2.1)) 4),wi (aiM b (wi (x1.2.1 + 1)))⟩ : EntV)] : List EntV).length : Nat)) : Int) < 1000000000000 then
 self3 (x1.1 ++ ([(⟨(Int.tmod (wi (aiM b x1.2.1)) 4),wi (aiM b (wi (x1.2.1 + 1)))⟩ : EntV)]),wi (x1.2.1 + 2),())
 else none
 else none
 else none
 else none
 else none
 else
 some (x1.1,x1.2.1,())
 else
 some (x1.1,x1.2.1,())
 ) 18446744073709551616 ([],0,())).bind fun z2 =>
 some ((z2.1,()),())
noncomputable abbrev aqE : Con SR1 := ⟨28,[.sh (.ro 17)],[.sh (.row 5)],fun x =>aoc x.1⟩
theorem auS : CO Tryz.prog aqE := aal aak Tryz.func28 [] trivial [] trivial (fun _ =>[]) [(3,.loop [.rg 3 (.row 5),.rg 4 sI_] 18446744073709551616 0)] fun x =>by kernel_rfl
noncomputable def akI (b : List Int) (n : Int) : Option ((List EntV × Unit) × (Unit)) :=
 (aoc b).bind fun r1 =>
 if n < ((r1.1.1.length : Nat) : Int) then
 if 0 ≤ n ∧ n ≤ ((r1.1.1.length : Nat) : Int) then
 some ((r1.1.1.take (n : Int).toNat,()),())
 else none
 else
 some ((r1.1.1,()),())
noncomputable abbrev ajj : Con SR1 := ⟨8,[.sh (.ro 17),.sh sI_],[.sh (.row 5)],fun x =>akI x.1 x.2.1⟩
theorem ajV : CO Tryz.prog ajj := aal aak Tryz.func8 [aqE] ⟨auS,trivial⟩ [] trivial (fun _ =>[]) [] fun x =>by kernel_rfl
noncomputable def ade (y0 : Int) : Option ((EntV × Unit) × (Unit)) :=
 some (((⟨0,y0⟩ : EntV),()),())
noncomputable abbrev aeA : Con SR1 := ⟨29,[.sh sI_],[.val 5],fun x =>ade x.1⟩
theorem agf : CO Tryz.prog aeA := aal aak Tryz.func29 [] trivial [] trivial (fun _ =>[]) [] fun x =>by kernel_rfl
noncomputable def abp (y0 : Cfg) : Option ((List EntV × Unit) × (Unit)) :=
 (lpF (σ := List EntV × Int × Unit) (β := List EntV × Int × Unit) (fun self3 x1 =>
 if x1.2.1 < (wi (40 * ((y0.subs.length : Nat) : Int))) then
 (ade y0.workers).bind fun r4 =>
 if (((x1.1.length + ([r4.1.1] : List EntV).length : Nat)) : Int) < 1000000000000 then
 self3 (x1.1 ++ ([r4.1.1]),wi (x1.2.1 + 1),())
 else none
 else
 some (x1.1,x1.2.1,())
 ) 18446744073709551616 ([],0,())).bind fun z2 =>
 some ((z2.1,()),())
noncomputable abbrev ab6 : Con SR1 := ⟨9,[.val 13],[.sh (.row 5)],fun x =>abp x.1⟩
theorem acL : CO Tryz.prog ab6 := aal aak Tryz.func9 [aeA] ⟨agf,trivial⟩ [] trivial (fun _ =>[]) [(3,.loop [.rg 3 (.row 5),.rg 4 sI_] 18446744073709551616 0)] fun x =>by kernel_rfl
noncomputable def adL (y0 : Int) (y1 : Int) : Option ((Int × Unit) × (Unit)) :=
 if y1 < 1 then
 some ((0,()),())
 else
 if y1 ≠ 0 then
 if (Int.tmod y0 y1) < 0 then
 if y1 ≠ 0 then
 some ((wi ((Int.tmod y0 y1) + y1),()),())
 else none
 else
 if y1 ≠ 0 then
 some (((Int.tmod y0 y1),()),())
 else none
 else none
noncomputable abbrev agd : Con SR1 := ⟨60,[.sh sI_,.sh sI_],[.sh sI_],fun x =>adL x.1 x.2.1⟩
theorem aiP : CO Tryz.prog agd := aal aak Tryz.func60 [] trivial [] trivial (fun _ =>[]) [] fun x =>by kernel_rfl
noncomputable def aaS (y0 : List Int) (y1 : Int) (y2 : Int) : Option ((Int × Unit) × (Unit)) :=
 if ((y0.length : Nat) : Int) = 0 then
 some ((0,()),())
 else
 if ((y0.length : Nat) : Int) ≠ 0 then
 if 0 ≤ (Int.tmod y1 ((y0.length : Nat) : Int)) ∧ (Int.tmod y1 ((y0.length : Nat) : Int)) < ((y0.length : Nat) : Int) then
 if ((y0.length : Nat) : Int) ≠ 0 then
 if (wi (1 + (Int.tmod (wi (Int.tdiv y1 ((y0.length : Nat) : Int))) 7))) ≠ 0 then
 (adL (wi (Int.tdiv (aed y0 (Int.tmod y1 ((y0.length : Nat) : Int))) (wi (1 + (Int.tmod (wi (Int.tdiv y1 ((y0.length : Nat) : Int))) 7))))) y2).bind fun r1 =>
 some ((r1.1.1,()),())
 else none
 else none
 else none
 else none
noncomputable abbrev afO : Con SR1 := ⟨31,[.sh (.ro 1),.sh sI_,.sh sI_],[.sh sI_],fun x =>aaS x.1 x.2.1 x.2.2.1⟩
theorem aiG : CO Tryz.prog afO := aal aak Tryz.func31 [agd] ⟨aiP,trivial⟩ [] trivial (fun _ =>[]) [] fun x =>by kernel_rfl
noncomputable def abX (y0 : List EntV) (y1 : EntV) (y2 : Int) : Option ((List EntV × Unit) × (Unit)) :=
 if 0 ≤ y2 ∧ y2 ≤ ((y0.length : Nat) : Int) then
 if (((([] : List EntV).length + (y0.take (y2 : Int).toNat).length : Nat)) : Int) < 1000000000000 then
 if ((((([]) ++ (y0.take (y2 : Int).toNat)).length + ([y1] : List EntV).length : Nat)) : Int) < 1000000000000 then
 if 0 ≤ y2 ∧ y2 ≤ ((y0.length : Nat) : Int) then
 if (((((([]) ++ (y0.take (y2 : Int).toNat)) ++ ([y1])).length + (y0.drop (y2 : Int).toNat).length : Nat)) : Int) < 1000000000000 then
 some ((((([]) ++ (y0.take (y2 : Int).toNat)) ++ ([y1])) ++ (y0.drop (y2 : Int).toNat),()),())
 else none
 else none
 else none
 else none
 else none
noncomputable abbrev afP : Con SR1 := ⟨30,[.sh (.ro 5),.val 5,.sh sI_],[.sh (.row 5)],fun x =>abX x.1 x.2.1 x.2.2.1⟩
theorem aiH : CO Tryz.prog afP := aal aak Tryz.func30 [] trivial [] trivial (fun _ =>[]) [] fun x =>by kernel_rfl
noncomputable def adM (y0 : List Int) (y1 : Int) (y2 : Int) : Option ((List EntV × Unit) × (Unit)) :=
 (lpF (σ := List EntV × Int × Unit) (β := List EntV × Int × Unit) (fun self3 x1 =>
 if x1.2.1 < y2 then
 (ade x1.2.1).bind fun r4 =>
 (aaS y0 (wi (y1 + x1.2.1)) (wi (x1.2.1 + 1))).bind fun r5 =>
 (abX x1.1 r4.1.1 r5.1.1).bind fun r6 =>
 self3 (r6.1.1,wi (x1.2.1 + 1),())
 else
 some (x1.1,x1.2.1,())
 ) 18446744073709551616 ([],0,())).bind fun z2 =>
 (aaS y0 (wi (y1 + y2)) (wi (y2 + 1))).bind fun r7 =>
 (abX z2.1 (⟨1,0⟩ : EntV) r7.1.1).bind fun r8 =>
 (aaS y0 (wi ((wi (y1 + y2)) + 1)) 3).bind fun r9 =>
 (lpF (σ := List EntV × Int × Unit) (β := List EntV × Int × Unit) (fun self12 x10 =>
 if 0 < x10.2.1 then
 (aaS y0 (wi ((wi (y1 + y2)) + x10.2.1)) y2).bind fun r13 =>
 (ade r13.1.1).bind fun r14 =>
 (aaS y0 (wi (y1 + x10.2.1)) (wi (((x10.1.length : Nat) : Int) + 1))).bind fun r15 =>
 (abX x10.1 r14.1.1 r15.1.1).bind fun r16 =>
 self12 (r16.1.1,wi (x10.2.1 - 1),())
 else
 some (x10.1,x10.2.1,())
 ) 18446744073709551616 (r8.1.1,r9.1.1,())).bind fun z11 =>
 some ((z11.1,()),())
noncomputable abbrev acm : Con SR1 := ⟨10,[.sh (.ro 1),.sh sI_,.sh sI_],[.sh (.row 5)],fun x =>adM x.1 x.2.1 x.2.2.1⟩
theorem acU : CO Tryz.prog acm := aal aak Tryz.func10 [aeA,afO,afP] ⟨agf,aiG,aiH,trivial⟩ [] trivial (fun _ =>[]) [(3,.loop [.rg 7 (.row 5),.rg 8 sI_] 18446744073709551616 0),(8,.loop [.rg 7 (.row 5),.rg 9 sI_] 18446744073709551616 2)] fun x =>by kernel_rfl
noncomputable def afV (y0 : Cfg) (y1 : List St) : Option ((Int × Unit) × (Unit)) :=
 (al5 y0).bind fun r1 =>
 if r1.1.1 ≠ 0 then
 some ((r1.1.1,()),())
 else
 (lpF (σ := Int × Unit) (β := (Int × Unit) ⊕ ((Int × Unit) × (Unit))) (fun self4 x2 =>
 if x2.1 < ((y1.length : Nat) : Int) then
 if 0 ≤ x2.1 ∧ x2.1 < ((y1.length : Nat) : Int) then
 if ((abD y1 x2.1).at_) < 0 then
 Option.map Sum.inr (
 some ((1,()),())
 )
 else
 if 1099511627776 < ((abD y1 x2.1).at_) then
 Option.map Sum.inr (
 some ((1,()),())
 )
 else
 self4 (wi (x2.1 + 1),())
 else none
 else
 some (Sum.inl (x2.1,()))
 ) 18446744073709551616 (0,())).bind fun z3 =>match z3 with
 | .inr o5 =>some o5
 | .inl z3 =>
 (lpF (σ := Int × Unit) (β := (Int × Unit) ⊕ ((Int × Unit) × (Unit))) (fun self8 x6 =>
 if x6.1 < ((y1.length : Nat) : Int) then
 if 0 ≤ x6.1 ∧ x6.1 < ((y1.length : Nat) : Int) then
 if 0 ≤ wi (x6.1 - 1) ∧ wi (x6.1 - 1) < ((y1.length : Nat) : Int) then
 if ((abD y1 x6.1).at_) < ((abD y1 (wi (x6.1 - 1))).at_) then
 Option.map Sum.inr (
 some ((5,()),())
 )
 else
 self8 (wi (x6.1 + 1),())
 else none
 else none
 else
 some (Sum.inl (x6.1,()))
 ) 18446744073709551616 (1,())).bind fun z7 =>match z7 with
 | .inr o9 =>some o9
 | .inl z7 =>
 some ((0,()),())
noncomputable abbrev ahm : Con SR1 := ⟨49,[.val 13,.sh (.ro 6)],[.sh sI_],fun x =>afV x.1 x.2.1⟩
theorem ajf : CO Tryz.prog ahm := aal aak Tryz.func49 [am1] ⟨ap2,trivial⟩ [] trivial (fun _ =>[]) [(5,.loopR [.rg 16 sI_] 18446744073709551616 0),(11,.loopR [.rg 8 sI_] 18446744073709551616 2)] fun x =>by kernel_rfl
noncomputable def aje (y0 : Cfg) (y1 : List St) : Option ((FgV × Int × Unit) × (Unit)) :=
 (afV y0 y1).bind fun r1 =>
 if r1.1.1 ≠ 0 then
 some (((⟨0,0,0,0,0,0,0,0,0,0,0,0,0⟩ : FgV),r1.1.1,()),())
 else
 (lpF (σ := Int × FgV × (Int → Option Int) × Unit) (β := Int × FgV × (Int → Option Int) × Unit) (fun self4 x2 =>
 if x2.1 < ((y1.length : Nat) : Int) then
 if 0 ≤ x2.1 ∧ x2.1 < ((y1.length : Nat) : Int) then
 ((
 if ((abD y1 x2.1).ev.kind) = 1 then
 some (({ x2.2.1 with acc := wi (x2.2.1.acc + 1) } : FgV),())
 else
 if ((abD y1 x2.1).ev.kind) = 2 then
 some (({ x2.2.1 with rej := wi (x2.2.1.rej + 1) } : FgV),())
 else
 if ((abD y1 x2.1).ev.kind) = 3 then
 some (({ x2.2.1 with spa := wi (x2.2.1.spa + 1) } : FgV),())
 else
 if ((abD y1 x2.1).ev.kind) = 4 then
 some (({ x2.2.1 with ref := wi (x2.2.1.ref + 1) } : FgV),())
 else
 if ((abD y1 x2.1).ev.kind) = 5 then
 some (({ x2.2.1 with sta := wi (x2.2.1.sta + 1) } : FgV),())
 else
 if ((abD y1 x2.1).ev.kind) = 10 then
 some (({ x2.2.1 with fin := wi (x2.2.1.fin + 1) } : FgV),())
 else
 if ((abD y1 x2.1).ev.kind) = 14 then
 some (({ x2.2.1 with ste := wi (x2.2.1.ste + 1) } : FgV),())
 else
 if ((abD y1 x2.1).ev.kind) = 15 then
 some (({ x2.2.1 with ski := wi (x2.2.1.ski + 1) } : FgV),())
 else
 if ((abD y1 x2.1).ev.kind) = 11 then
 some (({ x2.2.1 with boo := wi (x2.2.1.boo + 1) } : FgV),())
 else
 if ((abD y1 x2.1).ev.kind) = 12 then
 some (({ x2.2.1 with age := wi (x2.2.1.age + 1) } : FgV),())
 else
 if ((abD y1 x2.1).ev.kind) = 16 then
 some (({ x2.2.1 with par := wi (x2.2.1.par + 1) } : FgV),())
 else
 some (x2.2.1,())
 ) : Option (FgV × Unit)).bind fun z5 =>
 if ((abD y1 x2.1).ev.kind) = 1 then
 if ((abD y1 x2.1).ev.kind) = 1 then
 self4 (wi (x2.1 + 1),z5.1,axy x2.2.2.1 ((abD y1 x2.1).ev.task) ((abD y1 x2.1).at_),())
 else
 if ((abD y1 x2.1).ev.kind) = 5 then
 if (x2.2.2.1 ((abD y1 x2.1).ev.task)).isSome = true then
 self4 (wi (x2.1 + 1),({ z5.1 with lat := wi (z5.1.lat + (wi (((abD y1 x2.1).at_) - ((x2.2.2.1 ((abD y1 x2.1).ev.task)).getD 0)))),wor := (if z5.1.wor < wi (((abD y1 x2.1).at_) - ((x2.2.2.1 ((abD y1 x2.1).ev.task)).getD 0)) then wi (((abD y1 x2.1).at_) - ((x2.2.2.1 ((abD y1 x2.1).ev.task)).getD 0)) else z5.1.wor) } : FgV),x2.2.2.1,())
 else
 self4 (wi (x2.1 + 1),z5.1,x2.2.2.1,())
 else
 self4 (wi (x2.1 + 1),z5.1,x2.2.2.1,())
 else
 if ((abD y1 x2.1).ev.kind) = 3 then
 self4 (wi (x2.1 + 1),z5.1,axy x2.2.2.1 ((abD y1 x2.1).ev.task) ((abD y1 x2.1).at_),())
 else
 if ((abD y1 x2.1).ev.kind) = 5 then
 if (x2.2.2.1 ((abD y1 x2.1).ev.task)).isSome = true then
 self4 (wi (x2.1 + 1),({ z5.1 with lat := wi (z5.1.lat + (wi (((abD y1 x2.1).at_) - ((x2.2.2.1 ((abD y1 x2.1).ev.task)).getD 0)))),wor := (if z5.1.wor < wi (((abD y1 x2.1).at_) - ((x2.2.2.1 ((abD y1 x2.1).ev.task)).getD 0)) then wi (((abD y1 x2.1).at_) - ((x2.2.2.1 ((abD y1 x2.1).ev.task)).getD 0)) else z5.1.wor) } : FgV),x2.2.2.1,())
 else
 self4 (wi (x2.1 + 1),z5.1,x2.2.2.1,())
 else
 self4 (wi (x2.1 + 1),z5.1,x2.2.2.1,())
 else none
 else
 some (x2.1,x2.2.1,x2.2.2.1,())
 ) 18446744073709551616 (0,(⟨0,0,0,0,0,0,0,0,0,0,0,0,0⟩ : FgV),(mp0 : Int → Option Int),())).bind fun z3 =>
 some ((z3.2.1,0,()),())
noncomputable abbrev afv : Con SR1 := ⟨23,[.val 13,.sh (.ro 6)],[.val 21,.sh sI_],fun x =>aje x.1 x.2.1⟩
noncomputable def atT : List (Nat × Func) := [(50,Tryz.f50)]
theorem afU : CO Tryz.prog afv := aal aak Tryz.func23 [ahm] ⟨ajf,trivial⟩ atT ⟨Tryz.func50,trivial⟩ (fun _ =>[]) [(13,.cut [.ob 18 21] [9,10,11,16,19,20,21]),(7,.loop [.rg 25 sI_,.rg 7 (.own 21),.mp 16 1 false] 18446744073709551616 0)] fun x =>by kernel_rfl
noncomputable def aea (y0 : Cfg) (y1 : List St) : Option ((List Int × Int × Unit) × (Unit)) :=
 (afV y0 y1).bind fun r1 =>
 if r1.1.1 ≠ 0 then
 some (([],r1.1.1,()),())
 else
 if y0.workers = y0.workers then
 if 0 ≤ y0.workers ∧ y0.workers ≤ 1099511627776 then
 (lpF (σ := Int × List Int × Unit) (β := Int × List Int × Unit) (fun self4 x2 =>
 if x2.1 < ((y1.length : Nat) : Int) then
 if 0 ≤ x2.1 ∧ x2.1 < ((y1.length : Nat) : Int) then
 if ((abD y1 x2.1).ev.kind) = 5 then
 if 0 ≤ ((abD y1 x2.1).ev.worker) then
 if ((abD y1 x2.1).ev.worker) < y0.workers then
 if 0 ≤ (abD y1 x2.1).ev.worker ∧ (abD y1 x2.1).ev.worker < ((x2.2.1.length : Nat) : Int) then
 if 0 ≤ (abD y1 x2.1).ev.worker ∧ (abD y1 x2.1).ev.worker < ((x2.2.1.length : Nat) : Int) then
 self4 (wi (x2.1 + 1),x2.2.1.set ((abD y1 x2.1).ev.worker).toNat (wi ((aed x2.2.1 ((abD y1 x2.1).ev.worker)) + 1)),())
 else none
 else none
 else
 self4 (wi (x2.1 + 1),x2.2.1,())
 else
 self4 (wi (x2.1 + 1),x2.2.1,())
 else
 if ((abD y1 x2.1).ev.kind) = 9 then
 if 0 ≤ ((abD y1 x2.1).ev.worker) then
 if ((abD y1 x2.1).ev.worker) < y0.workers then
 if 0 ≤ (abD y1 x2.1).ev.worker ∧ (abD y1 x2.1).ev.worker < ((x2.2.1.length : Nat) : Int) then
 if 0 ≤ (abD y1 x2.1).ev.worker ∧ (abD y1 x2.1).ev.worker < ((x2.2.1.length : Nat) : Int) then
 self4 (wi (x2.1 + 1),x2.2.1.set ((abD y1 x2.1).ev.worker).toNat (wi ((aed x2.2.1 ((abD y1 x2.1).ev.worker)) + 1)),())
 else none
 else none
 else
 self4 (wi (x2.1 + 1),x2.2.1,())
 else
 self4 (wi (x2.1 + 1),x2.2.1,())
 else
 self4 (wi (x2.1 + 1),x2.2.1,())
 else none
 else
 some (x2.1,x2.2.1,())
 ) 18446744073709551616 (0,List.replicate (y0.workers : Int).toNat (0 : Int),())).bind fun z3 =>
 some ((z3.2.1,0,()),())
 else none
 else none
noncomputable abbrev acF : Con SR1 := ⟨24,[.val 13,.sh (.ro 6)],[.sh (.row 1),.sh sI_],fun x =>aea x.1 x.2.1⟩
theorem acQ : CO Tryz.prog acF := aal aak Tryz.func24 [ahm] ⟨ajf,trivial⟩ [] trivial (fun _ =>[]) [(6,.loop [.rg 22 sI_,.rg 7 (.row 1)] 18446744073709551616 0)] fun x =>by kernel_rfl
noncomputable def aeY (y0 : List Int) : Option ((Int × Unit) × (Unit)) :=
 (lpF (σ := Int × Int × Unit) (β := Int × Int × Unit) (fun self3 x1 =>
 if x1.2.1 < ((y0.length : Nat) : Int) then
 if 0 ≤ x1.2.1 ∧ x1.2.1 < ((y0.length : Nat) : Int) then
 if 0 ≤ x1.1 ∧ x1.1 < ((y0.length : Nat) : Int) then
 if (aed y0 x1.1) < (aed y0 x1.2.1) then
 self3 (x1.2.1,wi (x1.2.1 + 1),())
 else
 self3 (x1.1,wi (x1.2.1 + 1),())
 else none
 else none
 else
 some (x1.1,x1.2.1,())
 ) 18446744073709551616 (0,0,())).bind fun z2 =>
 some ((z2.1,()),())
noncomputable abbrev ahK : Con SR1 := ⟨51,[.sh (.ro 1)],[.sh sI_],fun x =>aeY x.1⟩
theorem alA : CO Tryz.prog ahK := aal aak Tryz.func51 [] trivial [] trivial (fun _ =>[]) [(3,.loop [.rg 3 sI_,.rg 8 sI_] 18446744073709551616 0)] fun x =>by kernel_rfl
noncomputable def aen (y0 : Cfg) (y1 : List St) : Option ((Int × Int × Unit) × (Unit)) :=
 (aea y0 y1).bind fun r1 =>
 if r1.1.2.1 ≠ 0 then
 some ((0,r1.1.2.1,()),())
 else
 (aeY r1.1.1).bind fun r2 =>
 some ((r2.1.1,0,()),())
noncomputable abbrev acR : Con SR1 := ⟨25,[.val 13,.sh (.ro 6)],[.sh sI_,.sh sI_],fun x =>aen x.1 x.2.1⟩
theorem adh : CO Tryz.prog acR := aal aak Tryz.func25 [acF,ahK] ⟨acQ,alA,trivial⟩ [] trivial (fun _ =>[]) [] fun x =>by kernel_rfl
noncomputable def ag1 (y0 : List Int) (y1 : List Int) : Option ((Bool × Unit) × (Unit)) :=
 if ((y0.length : Nat) : Int) ≠ ((y1.length : Nat) : Int) then
 some ((false,()),())
 else
 (lpF (σ := Int × Unit) (β := (Int × Unit) ⊕ ((Bool × Unit) × (Unit))) (fun self3 x1 =>
 if x1.1 < ((y0.length : Nat) : Int) then
 if 0 ≤ x1.1 ∧ x1.1 < ((y0.length : Nat) : Int) then
 if 0 ≤ x1.1 ∧ x1.1 < ((y1.length : Nat) : Int) then
 if (aed y0 x1.1) ≠ (aed y1 x1.1) then
 Option.map Sum.inr (
 some ((false,()),())
 )
 else
 self3 (wi (x1.1 + 1),())
 else none
 else none
 else
 some (Sum.inl (x1.1,()))
 ) 18446744073709551616 (0,())).bind fun z2 =>match z2 with
 | .inr o4 =>some o4
 | .inl z2 =>
 some ((true,()),())
noncomputable abbrev agc : Con SR1 := ⟨35,[.sh (.ro 1),.sh (.ro 1)],[.sh .b],fun x =>ag1 x.1 x.2.1⟩
theorem aiO : CO Tryz.prog agc := aal aak Tryz.func35 [] trivial [] trivial (fun _ =>[]) [(4,.loopR [.rg 5 sI_] 18446744073709551616 0)] fun x =>by kernel_rfl
noncomputable def aaA  : Option ((Bool × Unit) × (Unit)) :=
 (aga ([0,0,0,3])).bind fun r1 =>
 (aje r1.1.1 ([(⟨5,⟨3,0,1,0,0⟩⟩ : St),(⟨9,⟨5,0,1,0,0⟩⟩ : St)])).bind fun r2 =>
 (aea r1.1.1 ([(⟨5,⟨3,0,1,0,0⟩⟩ : St),(⟨9,⟨5,0,1,0,0⟩⟩ : St)])).bind fun r3 =>
 (aen r1.1.1 ([(⟨5,⟨3,0,1,0,0⟩⟩ : St),(⟨9,⟨5,0,1,0,0⟩⟩ : St)])).bind fun r4 =>
 if r2.1.2.1 = 0 then
 if r2.1.1.acc = 0 ∧ r2.1.1.rej = 0 ∧ r2.1.1.spa = 1 ∧ r2.1.1.ref = 0 ∧ r2.1.1.sta = 1 ∧ r2.1.1.fin = 0 ∧ r2.1.1.ste = 0 ∧ r2.1.1.ski = 0 ∧ r2.1.1.boo = 0 ∧ r2.1.1.age = 0 ∧ r2.1.1.par = 0 ∧ r2.1.1.lat = 4 ∧ r2.1.1.wor = 4 ∧ True then
 if r3.1.2.1 = 0 then
 (ag1 r3.1.1 ([1])).bind fun r5 =>
 if r5.1.1 = true then
 if r4.1.2.1 = 0 then
 some ((decide (r4.1.1 = 0),()),())
 else
 some ((false,()),())
 else
 some ((false,()),())
 else
 some ((false,()),())
 else
 some ((false,()),())
 else
 some ((false,()),())
noncomputable abbrev ab5 : Con SR1 := ⟨22,[],[.sh .b],fun x =>aaA ⟩
theorem acK : CO Tryz.prog ab5 := aal aak Tryz.func22 [ahO,afv,acF,acR,agc] ⟨ahN,afU,acQ,adh,aiO,trivial⟩ [] trivial (fun _ =>[]) [] fun x =>by kernel_rfl
end
end Go.Proofs.YteapeojalliebaaGreat
