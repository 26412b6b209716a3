/- Walk: Decode. -/
import Derived.Test.YtpbkelpokpglaaaGreatDec2
set_option linter.all false
namespace Go.Proofs.YtpbkelpokpglaaaGreat
open Go.RowKit
/-- A configuration's cells. -/
@[reducible] def cfgC (a0 a1 a2 a3 a4 a5 a6 a7 a8 : Int) (p s : Value) : Array Value :=
  #[.int .i64 a0, .int .i64 a1, .int .i64 a2, .int .i64 a3, .int .i64 a4, .int .i64 a5, .int .i64 a6, .int .i64 a7, .int .i64 a8, p, s]
/-- Where Decode stands: its coder in block r has read at_ bytes, its configuration lies in block g4, its result's place in block g2. -/
structure DSt (w : World) (A : Option Addr) (n cap r g2 g4 at_ : Nat) (cs : Array Value) (wr : World) : Prop where
  bel : Below w.heap.size w wr
  cod : Blk wr r 108 (cdr A n cap at_)
  box : Blk wr g4 28 cs
  res : Blk wr g2 28 (cfgC 0 0 0 0 0 0 0 0 0 (.slice none 0 0) (.slice none 0 0))
  xr : w.heap.size ≤ r
  x4 : w.heap.size ≤ g4
  x2 : w.heap.size ≤ g2
  ne : g2 ≠ g4
theorem blk_ne {w : World} {g g' : Nat} {t t' : TypeId} {cs cs' : Array Value} (h : Blk w g t cs) (h' : Blk w g' t' cs') (hne : t ≠ t') : g ≠ g' := by
  intro e
  subst e
  unfold Blk at h h'
  rw [h] at h'
  injection h' with h'
  injection h' with _ h'
  exact hne h'
theorem Blk.new_at {w : World} {t : TypeId} {cs : Array Value} {g : Nat} (h : g = w.heap.size) : Blk (w.alloc (.cells cs t)) g t cs := by rw [h]; exact Blk.new _ _ _
section
variable {w wr w1 : World} {A : Option Addr} {n cap r g2 g4 at_ : Nat} {cs : Array Value}
theorem DSt.size (h : DSt w A n cap r g2 g4 at_ cs wr) : w.heap.size ≤ wr.heap.size := h.bel.size
theorem DSt.rlt (h : DSt w A n cap r g2 g4 at_ cs wr) : r < wr.heap.size := h.cod.lt
theorem DSt.num (h : DSt w A n cap r g2 g4 at_ cs wr) (hg : wr.grownBy w1 (some r)) (hc : Blk w1 r 108 (cdr A n cap (at_ + 1))) : DSt w A n cap r g2 g4 (at_ + 1) cs w1 :=
  ⟨below_grown h.bel hg h.size (fun x e => by injection e with e; rw [← e]; exact h.xr), hc, h.box.grown hg (by have := blk_ne h.cod h.box (by decide); simp; omega), h.res.grown hg (by have := blk_ne h.cod h.res (by decide); simp; omega), h.xr, h.x4, h.x2, h.ne⟩
theorem DSt.store (h : DSt w A n cap r g2 g4 at_ cs wr) (i : Nat) (u : Value) : DSt w A n cap r g2 g4 at_ (cs.setIfInBounds i u) (wr.setCell ⟨g4, i, none⟩ u) :=
  ⟨h.bel.setCell h.x4 _, h.cod.far (by have := blk_ne h.cod h.box (by decide); exact this) _, h.box.set_ _ _, h.res.far h.ne _, h.xr, h.x4, h.x2, h.ne⟩
theorem DSt.other (h : DSt w A n cap r g2 g4 at_ cs wr) (p : Addr) (u : Value) (h1 : w.heap.size ≤ p.block) (hr : p.block ≠ r) (h4 : p.block ≠ g4) (h2 : p.block ≠ g2) : DSt w A n cap r g2 g4 at_ cs (wr.setCell p u) :=
  ⟨h.bel.setCell h1 _, h.cod.far (fun e => hr e.symm) _, h.box.far (fun e => h4 e.symm) _, h.res.far (fun e => h2 e.symm) _, h.xr, h.x4, h.x2, h.ne⟩
theorem DSt.alloc (h : DSt w A n cap r g2 g4 at_ cs wr) (o : Obj) : DSt w A n cap r g2 g4 at_ cs (wr.alloc o) :=
  ⟨h.bel.alloc h.size _, h.cod.alloc _, h.box.alloc _, h.res.alloc _, h.xr, h.x4, h.x2, h.ne⟩
theorem DSt.grown {row : Option Nat} (h : DSt w A n cap r g2 g4 at_ cs wr) (hg : wr.grownBy w1 row) (h0 : ∀ x, row = some x → w.heap.size ≤ x) (hr : some r ≠ row) (h4 : some g4 ≠ row) (h2 : some g2 ≠ row) : DSt w A n cap r g2 g4 at_ cs w1 :=
  ⟨below_grown h.bel hg h.size h0, h.cod.grown hg hr, h.box.grown hg h4, h.res.grown hg h2, h.xr, h.x4, h.x2, h.ne⟩
end
theorem wpList_min {P : Program} {w : World} {ops : Array Oper} {rest : List Oper} {o : Oper} {a : Act} {Q : Exit → Act → World → Prop} (hgd : o.guard = none) (s x : Operand) (t : TypeId)
    (ho : o.op = .call { callee := .builtin .min, args := #[s, x], argTypes := #[t, t] }) (a1 a2 m : Int) (hs : a.eval s = .int .i64 a1) (hx : a.eval x = .int .i64 a2) (hm : m = if a2 < a1 then a2 else a1)
    (h : wpList P ops Q rest (a.put o.dst (.int .i64 m)) w) : wpList P ops Q (o :: rest) a w := by
  refine wpList_plain hgd fun K hK => ?_
  subst hm
  unfold Oper.wp execOp
  simp only [ho, resolve, invoke, builtin, Builtin.min_, Builtin.min2, List.foldlM, Sem.run_bind, Sem.run_pure, Result.andThen_ok, List.map_toArray, List.map_cons, List.map_nil, hs, hx]
  exact hK _ _ h
theorem cells_new (w : World) (l : List Value) (t : TypeId) : ∀ j u, l[j]? = some u → (w.alloc (.cells l.toArray t)).cell? ((⟨w.heap.size, 0, none⟩ : Addr).add j) = some u := by
  intro j u hu
  rw [addr_add, (Blk.new w t l.toArray).cell j]
  simpa using hu
theorem cells_new_at {w : World} {l : List Value} {t : TypeId} {g : Nat} (h : g = w.heap.size) : ∀ j u, l[j]? = some u → (w.alloc (.cells l.toArray t)).cell? ((⟨g, 0, none⟩ : Addr).add j) = some u := by rw [h]; exact cells_new w l t
theorem row_slice {w : World} {base : Nat} {e : TypeId} {size : Nat} {v : Value} {n : Nat} {xs : List Value} (h : w.ownsRow base e size v n xs) : ∃ A cap, v = .slice A n cap := by
  rcases h.2 with ⟨rfl, rfl⟩ | ⟨g, cap, cur, rfl, _⟩
  · exact ⟨_, _, rfl⟩
  · exact ⟨_, _, rfl⟩
theorem row_down {w : World} {base base' : Nat} {e : TypeId} {size : Nat} {v : Value} {n : Nat} {xs : List Value} (h : w.ownsRow base e size v n xs) (hb : base' ≤ base) : w.ownsRow base' e size v n xs := by
  refine ⟨h.1, ?_⟩
  rcases h.2 with hn | ⟨g, cap, cur, rfl, h1, h2⟩
  · exact .inl hn
  · exact .inr ⟨g, cap, cur, rfl, by omega, h2⟩
theorem row_ne_ge {w : World} {base : Nat} {e : TypeId} {size : Nat} {v : Value} {n : Nat} {xs : List Value} (h : w.ownsRow base e size v n xs) {g : Nat} (hg : w.heap.size ≤ g) : v.ownBlock = none ∨ v.ownBlock ≠ some g := by
  cases hv : v.ownBlock with
  | none => exact .inl rfl
  | some k => exact .inr (by have := (h.lt k hv).2; simp; omega)
theorem insInfo : (Tryz.prog.info? 112).map (fun i => (i.zero, i.size, i.bytes)) = some (some (.agg #[.int .i64 0, .int .i64 0, .int .i64 0]), 3, 24) := by kernel_rfl
theorem subInfo : (Tryz.prog.info? 114).map (fun i => (i.zero, i.size, i.bytes)) = some (some (.agg #[.int .i64 0, .int .i64 0, .int .i64 0]), 3, 24) := by kernel_rfl
theorem rowInfo : (Tryz.prog.info? 110).map (fun i => (i.zero, i.size, i.bytes)) = some (some (.slice none 0 0), 1, 24) := by kernel_rfl
/-- A configuration whose rows lie in blocks from base on. -/
def CfgOwn (w : World) (base : Nat) (C : Cfg) (l : CfgAt) : Prop :=
  ∃ vs, w.ownsRow base 110 1 (.slice l.pa C.progs.length l.pc) C.progs.length vs ∧ PrAcc w base vs C.progs ∧ w.ownsRow base 114 3 (.slice l.sa C.subs.length l.sc) C.subs.length (C.subs.flatMap Sub.enc) ∧ C.progs.length ≤ 64 ∧ (∀ p ∈ C.progs, p.length ≤ 5) ∧ C.subs.length ≤ 64
theorem CfgOwn.cfgIn {w : World} {base : Nat} {C : Cfg} {l : CfgAt} (h : CfgOwn w base C l) : CfgIn w w.heap.size C l := by
  obtain ⟨vs, h1, h2, h3, hl, hl2, hl3⟩ := h
  obtain ⟨A1, c1, e1, h4⟩ := progs_of_rows h1 h2 (by omega) (fun p hp => by have := hl2 p hp; omega)
  obtain ⟨A2, c2, e2, h5⟩ := sl_of_row (fun x => by cases x; rfl) h3 (by omega)
  injection e1 with e1 _ _
  injection e2 with e2 _ _
  rw [← e1] at h4
  rw [← e2] at h5
  exact ⟨h4, h5⟩
theorem row_ne_lt {w : World} {base : Nat} {e : TypeId} {size : Nat} {v : Value} {n : Nat} {xs : List Value} (h : w.ownsRow base e size v n xs) {row : Option Nat} (hg : ∀ x, row = some x → x < base) : v.ownBlock = none ∨ v.ownBlock ≠ row := by
  cases hv : v.ownBlock with
  | none => exact .inl rfl
  | some k => exact .inr (fun e => by have := (h.lt k hv).1; have := hg k e.symm; omega)
theorem CfgOwn.kept {w w' : World} {base : Nat} {C : Cfg} {l : CfgAt} {row : Option Nat} (h : CfgOwn w base C l) (hg : w.grownBy w' row) (hr : ∀ x, row = some x → x < base) : CfgOwn w' base C l := by
  obtain ⟨vs, h1, h2, h3, hl⟩ := h
  exact ⟨vs, h1.kept hg (row_ne_lt h1 hr), h2.kept hg (fun _ _ _ x => row_ne_lt x hr), h3.kept hg (row_ne_lt h3 hr), hl⟩
/-- Decode's second half: the programs are made, the submissions are on their way. -/
structure SSt (w : World) (A : Option Addr) (n cap r g2 g4 at_ : Nat) (cs : Array Value) (wr : World) (v9 : Value) (vs : List Value) (acc : List (List Ins)) (v10 : Value) (ss : List Sub) : Prop where
  d : DSt w A n cap r g2 g4 at_ cs wr
  p : wr.ownsRow w.heap.size 110 1 v9 acc.length vs
  q : PrAcc wr w.heap.size vs acc
  s : wr.ownsRow w.heap.size 114 3 v10 ss.length (ss.flatMap Sub.enc)
section
variable {w wr w1 : World} {A : Option Addr} {n cap r g2 g4 at_ : Nat} {cs : Array Value} {v9 : Value} {vs : List Value} {acc : List (List Ins)} {v10 : Value} {ss : List Sub}
theorem SSt.num (h : SSt w A n cap r g2 g4 at_ cs wr v9 vs acc v10 ss) (hg : wr.grownBy w1 (some r)) (hc : Blk w1 r 108 (cdr A n cap (at_ + 1))) : SSt w A n cap r g2 g4 (at_ + 1) cs w1 v9 vs acc v10 ss :=
  ⟨h.d.num hg hc, h.p.kept hg (row_ne h.p h.d.cod (by decide)), h.q.kept hg (fun _ _ _ x => row_ne x h.d.cod (by decide)), h.s.kept hg (row_ne h.s h.d.cod (by decide))⟩
theorem SSt.alloc (h : SSt w A n cap r g2 g4 at_ cs wr v9 vs acc v10 ss) (o : Obj) : SSt w A n cap r g2 g4 at_ cs (wr.alloc o) v9 vs acc v10 ss :=
  ⟨h.d.alloc o, h.p.alloc o, h.q.kept (World.grownBy_alloc _ o none) (fun u _ _ _ => by cases hv : u.ownBlock <;> simp), h.s.alloc o⟩
theorem SSt.other {g : Nat} {cs9 : Array Value} (h : SSt w A n cap r g2 g4 at_ cs wr v9 vs acc v10 ss) (hb : Blk wr g 114 cs9) (hne : v10.ownBlock = none ∨ v10.ownBlock ≠ some g) (hw : w.heap.size ≤ g) (i : Nat) (u : Value) :
    SSt w A n cap r g2 g4 at_ cs (wr.setCell ⟨g, i, none⟩ u) v9 vs acc v10 ss :=
  ⟨h.d.other _ _ hw (blk_ne hb h.d.cod (by decide)) (blk_ne hb h.d.box (by decide)) (blk_ne hb h.d.res (by decide)), row_set h.p hb (by decide) i u, h.q.kept (grown_set (p := ⟨g, i, none⟩) (grown_refl wr (some g)) (.inr rfl)) (fun _ _ _ x => row_ne x hb (by decide)),
    h.s.kept (grown_set (p := ⟨g, i, none⟩) (grown_refl wr (some g)) (.inr rfl)) hne⟩
theorem SSt.store (h : SSt w A n cap r g2 g4 at_ cs wr v9 vs acc v10 ss) (i : Nat) (u : Value) : SSt w A n cap r g2 g4 at_ (cs.setIfInBounds i u) (wr.setCell ⟨g4, i, none⟩ u) v9 vs acc v10 ss :=
  ⟨h.d.store i u, row_set h.p h.d.box (by decide) i u, h.q.kept (grown_set (p := ⟨g4, i, none⟩) (grown_refl wr (some g4)) (.inr rfl)) (fun _ _ _ x => row_ne x h.d.box (by decide)), row_set h.s h.d.box (by decide) i u⟩
theorem SSt.app {v' : Value} {x : Sub} (h : SSt w A n cap r g2 g4 at_ cs wr v9 vs acc v10 ss) (hown : w1.ownsRow w.heap.size 114 3 v' (ss.length + 1) (ss.flatMap Sub.enc ++ x.enc)) (hg : wr.grownBy w1 v10.ownBlock) : SSt w A n cap r g2 g4 at_ cs w1 v9 vs acc v' (ss ++ [x]) :=
  ⟨h.d.grown hg (fun k e => (h.s.lt k e).1) (blk_row h.d.cod h.s (by decide)) (blk_row h.d.box h.s (by decide)) (blk_row h.d.res h.s (by decide)), h.p.kept hg (rows_ne h.p h.s (by decide)), h.q.kept hg (fun _ _ _ x => rows_ne x h.s (by decide)),
    by simpa using hown⟩
theorem SSt.done {C : Cfg} {Ap Av : Option Addr} {cp cv : Nat} (h : SSt w A n cap r g2 g4 at_ cs wr (.slice Ap acc.length cp) vs acc (.slice Av ss.length cv) ss) (hg : wr.grownBy w1 (some g2)) (hp : C.progs = acc) (hs : C.subs = ss) (hl : acc.length ≤ 64) (hl2 : ∀ p ∈ acc, p.length ≤ 5) (hl3 : ss.length ≤ 64) :
    CfgOwn w1 w.heap.size C ⟨Ap, cp, Av, cv⟩ ∧ Below w.heap.size w w1 := by
  have h1 := h.p.kept hg (row_ne h.p h.d.res (by decide))
  have h2 := h.q.kept hg (fun _ _ _ x => row_ne x h.d.res (by decide))
  have h3 := h.s.kept hg (row_ne h.s h.d.res (by decide))
  refine ⟨⟨vs, ?_, ?_, ?_, ?_, ?_, ?_⟩, below_grown h.d.bel hg h.d.size (fun k e => by injection e with e; have := h.d.x2; omega)⟩
  · rw [hp]; exact h1
  · rw [hp]; exact h2
  · rw [hs]; exact h3
  · rw [hp]; exact hl
  · rw [hp]; exact hl2
  · rw [hs]; exact hl3
end
set_option maxRecDepth 100000 in
set_option maxHeartbeats 2600000 in
theorem decode_any (A : Option Addr) (cap : Nat) (bs : List Nat) (w : World) (hx : Sl encByte 1 w w.heap.size A bs) (hwf : BytesWf bs) :
    Calls Tryz.prog 24 #[.slice A bs.length cap] w fun e w' => (∃ l, e = .returned (cfgV (decode bs) l) ∧ CfgOwn w' w.heap.size (decode bs) l) ∧ Below w.heap.size w w' := by
  have r0 := rd_rng (bs := bs) (at_ := 0) (k := 4) (by omega)
  have r1 := rd_rng (bs := bs) (at_ := 1) (k := 4) (by omega)
  obtain ⟨m, hm⟩ : ∃ m : Int, m = if 1 + rd bs 1 4 < 3 then 1 + rd bs 1 4 else 3 := ⟨_, rfl⟩
  have hm1 : 1 ≤ m ∧ m ≤ 3 := by rw [hm]; split <;> omega
  replace hm := Lib.hid hm
  have r2 := rd_rng (bs := bs) (at_ := 2) (k := m) (by omega)
  have r3 := rd_rng (bs := bs) (at_ := 3) (k := 12) (by omega)
  have r4 := rd_rng (bs := bs) (at_ := 4) (k := 4) (by omega)
  have r5 := rd_rng (bs := bs) (at_ := 5) (k := 4) (by omega)
  have r6 := rd_rng (bs := bs) (at_ := 6) (k := 1 + rd bs 4 4) (by omega)
  have r7 := rd_rng (bs := bs) (at_ := 7) (k := 6) (by omega)
  have r8 := rd_rng (bs := bs) (at_ := 8) (k := 8) (by omega)
  have r9 := rd_rng (bs := bs) (at_ := 9) (k := 4) (by omega)
  obtain ⟨nn, hnn⟩ : ∃ nn : Nat, 1 + rd bs 9 4 = (nn : Int) := ⟨(1 + rd bs 9 4).toNat, by omega⟩
  have hn1 : 1 ≤ nn ∧ nn ≤ 4 := by omega
  have hlv : 1 ≤ 1 + rd bs 1 4 ∧ 1 + rd bs 1 4 ≤ 4 := by omega
  replace hnn := Lib.hid hnn
  obtain ⟨i58, hi58, hz58, hs58, hb58⟩ := info_parts insInfo
  obtain ⟨i40, hi40, hz40, hs40, hb40⟩ := info_parts rowInfo
  obtain ⟨i60, hi60, hz60, hs60, hb60⟩ := info_parts subInfo
  go_enter Tryz.func24, Tryz.ntmps24
  go_wp2_with fail
  refine (coder_any A cap bs _ 0 _ _ w.heap.size (Blk.new_at (by simp)) (hx.below (by repeat' (first | (with_reducible exact Below.refl _ _) | (with_reducible refine Below.alloc ?_ (by first | omega | (simp <;> omega)) _)))) hwf (by omega) (by omega) (by omega)).mono ?_; rintro e w1 ⟨rfl, hg1, hc1⟩
  have hb1 : Below w.heap.size w w1 := below_grown (by repeat' (first | (with_reducible exact Below.refl _ _) | (with_reducible refine Below.alloc ?_ (by first | omega | (simp <;> omega)) _))) hg1 (by simp <;> omega) (fun x e => by injection e with e; omega)
  have hp1 : Blk w1 w.heap.size 28 (cfgC 0 0 0 0 0 0 0 0 0 (.slice none 0 0) (.slice none 0 0)) := Blk.grown ((Blk.new_at rfl).alloc _) hg1 (by simp)
  clear hg1
  go_wp2_with fail
  refine (coder_any A cap bs _ 1 _ _ w.heap.size hc1 (hx.below hb1) hwf (by omega) (by omega) (by omega)).mono ?_; rintro e w2 ⟨rfl, hg2, hc2⟩
  have hb2 : Below w.heap.size w w2 := below_grown hb1 hg2 hb1.size (fun x e => by injection e with e; omega)
  have hp2 := hp1.grown hg2 (by simp)
  clear hg2 hb1 hp1 hc1
  have hz2 := hc2.lt
  go_wp2_with (refine wpList_min rfl _ _ _ rfl 3 (1 + rd bs 1 4) m rfl rfl hm.out ?_)
  obtain ⟨g4, hg4⟩ : ∃ g4, g4 = w2.heap.size := ⟨_, rfl⟩
  obtain ⟨g2, hg2⟩ : ∃ g2, g2 = w.heap.size := ⟨_, rfl⟩
  obtain ⟨r, hr⟩ : ∃ r, r = w.heap.size + 1 := ⟨_, rfl⟩
  have hD : DSt w A bs.length cap r g2 g4 2 (cfgC (1 + rd bs 0 4) (1 + rd bs 1 4) 0 0 0 0 0 0 0 (.slice none 0 0) (.slice none 0 0)) (w2.alloc (.cells (cfgC (1 + rd bs 0 4) (1 + rd bs 1 4) 0 0 0 0 0 0 0 (.slice none 0 0) (.slice none 0 0)) 28)) :=
    ⟨hb2.alloc hb2.size _, by rw [hr]; exact hc2.alloc _, Blk.new_at hg4, by rw [hg2]; exact hp2.alloc _, by omega, by rw [hg4]; exact hb2.size, by omega, by omega⟩
  simp only [← hr]
  simp only [← hg4, ← hg2]
  clear hg4 hr hg2 hc2 hp2 hb2 hz2
  refine (coder_any A cap bs r 2 _ _ w.heap.size hD.cod (hx.below hD.bel) hwf (by omega) (by omega) (by omega)).mono ?_; rintro e w3 ⟨rfl, hg, hc⟩
  replace hD := hD.num hg hc
  clear hg hc
  have hf := hD.box.frozen
  have hcs := (hD.box.cell 2).trans (show _ = some (Value.int .i64 0) from rfl)
  go_wp2_with fail
  clear hf hcs
  replace hD : DSt w A bs.length cap r g2 g4 3 (cfgC (1 + rd bs 0 4) (1 + rd bs 1 4) (1 + rd bs 2 m) 0 0 0 0 0 0 (.slice none 0 0) (.slice none 0 0)) _ := hD.store 2 (.int .i64 (1 + rd bs 2 m))
  refine (coder_any A cap bs r 3 _ _ w.heap.size hD.cod (hx.below hD.bel) hwf (by omega) (by omega) (by omega)).mono ?_; rintro e w4 ⟨rfl, hg, hc⟩
  replace hD := hD.num hg hc
  clear hg hc
  have hf := hD.box.frozen
  have hcs := (hD.box.cell 3).trans (show _ = some (Value.int .i64 0) from rfl)
  go_wp2_with fail
  clear hf hcs
  replace hD : DSt w A bs.length cap r g2 g4 4 (cfgC (1 + rd bs 0 4) (1 + rd bs 1 4) (1 + rd bs 2 m) (1 + rd bs 3 12) 0 0 0 0 0 (.slice none 0 0) (.slice none 0 0)) _ := hD.store 3 (.int .i64 (1 + rd bs 3 12))
  refine (coder_any A cap bs r 4 _ _ w.heap.size hD.cod (hx.below hD.bel) hwf (by omega) (by omega) (by omega)).mono ?_; rintro e w5 ⟨rfl, hg, hc⟩
  replace hD := hD.num hg hc
  clear hg hc
  have hf := hD.box.frozen
  have hcs := (hD.box.cell 4).trans (show _ = some (Value.int .i64 0) from rfl)
  go_wp2_with fail
  clear hf hcs
  replace hD : DSt w A bs.length cap r g2 g4 5 (cfgC (1 + rd bs 0 4) (1 + rd bs 1 4) (1 + rd bs 2 m) (1 + rd bs 3 12) (1 + rd bs 4 4) 0 0 0 0 (.slice none 0 0) (.slice none 0 0)) _ := hD.store 4 (.int .i64 (1 + rd bs 4 4))
  refine (coder_any A cap bs r 5 _ _ w.heap.size hD.cod (hx.below hD.bel) hwf (by omega) (by omega) (by omega)).mono ?_; rintro e w6 ⟨rfl, hg, hc⟩
  replace hD := hD.num hg hc
  clear hg hc
  have hf := hD.box.frozen
  have hcl := (hD.box.cell 4).trans (show _ = some (Value.int .i64 (1 + rd bs 4 4)) from rfl)
  have hcs := (hD.box.cell 5).trans (show _ = some (Value.int .i64 0) from rfl)
  go_wp2_with fail
  clear hf hcl hcs
  replace hD : DSt w A bs.length cap r g2 g4 6 (cfgC (1 + rd bs 0 4) (1 + rd bs 1 4) (1 + rd bs 2 m) (1 + rd bs 3 12) (1 + rd bs 4 4) (1 + rd bs 5 4) 0 0 0 (.slice none 0 0) (.slice none 0 0)) _ := hD.store 5 (.int .i64 (1 + rd bs 5 4))
  refine (coder_any A cap bs r 6 _ _ w.heap.size hD.cod (hx.below hD.bel) hwf (by omega) (by omega) (by omega)).mono ?_; rintro e w7 ⟨rfl, hg, hc⟩
  replace hD := hD.num hg hc
  clear hg hc
  have hf := hD.box.frozen
  have hcs := (hD.box.cell 6).trans (show _ = some (Value.int .i64 0) from rfl)
  go_wp2_with fail
  clear hf hcs
  replace hD : DSt w A bs.length cap r g2 g4 7 (cfgC (1 + rd bs 0 4) (1 + rd bs 1 4) (1 + rd bs 2 m) (1 + rd bs 3 12) (1 + rd bs 4 4) (1 + rd bs 5 4) (1 + rd bs 6 (1 + rd bs 4 4)) 0 0 (.slice none 0 0) (.slice none 0 0)) _ := hD.store 6 (.int .i64 (1 + rd bs 6 (1 + rd bs 4 4)))
  refine (coder_any A cap bs r 7 _ _ w.heap.size hD.cod (hx.below hD.bel) hwf (by omega) (by omega) (by omega)).mono ?_; rintro e w8 ⟨rfl, hg, hc⟩
  replace hD := hD.num hg hc
  clear hg hc
  have hf := hD.box.frozen
  have hcs := (hD.box.cell 7).trans (show _ = some (Value.int .i64 0) from rfl)
  go_wp2_with fail
  clear hf hcs
  replace hD : DSt w A bs.length cap r g2 g4 8 (cfgC (1 + rd bs 0 4) (1 + rd bs 1 4) (1 + rd bs 2 m) (1 + rd bs 3 12) (1 + rd bs 4 4) (1 + rd bs 5 4) (1 + rd bs 6 (1 + rd bs 4 4)) (rd bs 7 6) 0 (.slice none 0 0) (.slice none 0 0)) _ := hD.store 7 (.int .i64 (rd bs 7 6))
  refine (coder_any A cap bs r 8 _ _ w.heap.size hD.cod (hx.below hD.bel) hwf (by omega) (by omega) (by omega)).mono ?_; rintro e w9 ⟨rfl, hg, hc⟩
  replace hD := hD.num hg hc
  clear hg hc
  have hf := hD.box.frozen
  have hcs := (hD.box.cell 8).trans (show _ = some (Value.int .i64 0) from rfl)
  go_wp2_with fail
  clear hf hcs
  replace hD : DSt w A bs.length cap r g2 g4 9 (cfgC (1 + rd bs 0 4) (1 + rd bs 1 4) (1 + rd bs 2 m) (1 + rd bs 3 12) (1 + rd bs 4 4) (1 + rd bs 5 4) (1 + rd bs 6 (1 + rd bs 4 4)) (rd bs 7 6) (1 + rd bs 8 8)  (.slice none 0 0) (.slice none 0 0)) _ := hD.store 8 (.int .i64 (1 + rd bs 8 8))
  refine (coder_any A cap bs r 9 _ _ w.heap.size hD.cod (hx.below hD.bel) hwf (by omega) (by omega) (by omega)).mono ?_; rintro e w10 ⟨rfl, hg, hc⟩
  replace hD := hD.num hg hc
  clear hg hc r0 r2 r3 r4 r5 r6 r7 r8
  go_wp2_with fail
  simp only [hnn.out]
  go_loopw [6] (fun i wr => ∃ (k at_ : Nat) (v9 : Value) (vs : List Value) (acc : List (List Ins)), k ≤ nn ∧ i = .int .i64 k ∧ DSt w A bs.length cap r g2 g4 at_ (cfgC (1 + rd bs 0 4) (1 + rd bs 1 4) (1 + rd bs 2 m) (1 + rd bs 3 12) (1 + rd bs 4 4) (1 + rd bs 5 4) (1 + rd bs 6 (1 + rd bs 4 4)) (rd bs 7 6) (1 + rd bs 8 8) v9 (.slice none 0 0)) wr ∧ wr.ownsRow w.heap.size 110 1 v9 acc.length vs ∧ PrAcc wr w.heap.size vs acc ∧ (∀ p ∈ acc, p.length ≤ 5) ∧ acc.length = k ∧ at_ ≤ 10 + 16 * k ∧ Hid (decProgs bs nn (1 + rd bs 1 4) (nn - k) at_ acc = decProgs bs nn (1 + rd bs 1 4) nn 10 [])) (fun i _ => nn - (intOf i).toNat)
  case atStart => exact ⟨0, 10, .slice none 0 0, [], [], Nat.zero_le _, rfl, hD, World.ownsRow_nil _ _ _ _, ⟨rfl, by simp⟩, by simp, rfl, by omega, rfl⟩
  case round =>
    clear hD
    obtain ⟨k, at_, v9, vs, acc, hk, rfl, hD, hown, hpr, hp5, hak, hat, hfin⟩ := hrel
    replace hak := Lib.hid hak
    by_cases hlt : k < nn
    · go_wp2_with fail
      refine (coder_any A cap bs r at_ _ _ w.heap.size hD.cod (hx.below hD.bel) hwf (by omega) (by omega) (by omega)).mono ?_; rintro e wo ⟨rfl, hg, hc⟩
      have hownC := hown.kept hg (row_ne hown hD.cod (by decide))
      have hprC := hpr.kept hg (fun u n xs h => row_ne h hD.cod (by decide))
      replace hD := hD.num hg hc
      clear hg hc hown hpr
      have rj := rd_rng (bs := bs) (at_ := at_) (k := 6) (by omega)
      obtain ⟨j0, hj0⟩ : ∃ j0 : Nat, rd bs at_ 6 = (j0 : Int) := ⟨(rd bs at_ 6).toNat, by omega⟩
      have hj5 : j0 ≤ 5 := by omega
      go_wp2_with fail
      try simp only [hj0]
      replace hj0 := Lib.hid hj0
      clear rj
      have hD0 := hD.size
      have hneC := row_ne hownC hD.cod (by decide)
      have hprN := fun (u : Value) (n : Nat) (xs : List Value) (h : wo.ownsRow w.heap.size 112 3 u n xs) => row_ne h hD.cod (by decide)
      go_loopw [7, 8] (fun p i wi => ∃ (j at' : Nat) (ac : List Ins), i = .int .i64 j ∧ DSt w A bs.length cap r g2 g4 at' (cfgC (1 + rd bs 0 4) (1 + rd bs 1 4) (1 + rd bs 2 m) (1 + rd bs 3 12) (1 + rd bs 4 4) (1 + rd bs 5 4) (1 + rd bs 6 (1 + rd bs 4 4)) (rd bs 7 6) (1 + rd bs 8 8) v9 (.slice none 0 0)) wi ∧ wo.grownBy wi (some r) ∧ wi.ownsRow wo.heap.size 112 3 p ac.length (ac.flatMap Ins.enc) ∧ ac.length + j ≤ 5 ∧ at' + 3 * j ≤ at_ + 16 ∧ Hid (decProg bs nn (1 + rd bs 1 4) j at' ac = decProg bs nn (1 + rd bs 1 4) j0 (at_ + 1) [])) (fun _ i _ => (intOf i).toNat)
      case atStart => exact ⟨j0, at_ + 1, [], rfl, hD, grown_refl _ _, World.ownsRow_nil _ _ _ _, by simp; omega, by omega, rfl⟩
      case round =>
        obtain ⟨j, at', ac, rfl, hI, hgo, hrow, hlen, hat', hf2⟩ := hrel
        clear hD
        by_cases hj : 0 < j
        · obtain ⟨j', rfl⟩ : ∃ j', j = j' + 1 := ⟨j - 1, by omega⟩
          have e3 := rd_rng (bs := bs) (at_ := at') (k := 3) (by omega)
          have nr := blk_row hI.cod hrow (by decide)
          have n4 := blk_row hI.box hrow (by decide)
          have n2 := blk_row hI.res hrow (by decide)
          have rowlt := hrow.lt
          have qo := hD0
          by_cases o0 : rd bs at' 3 = 0
          · have hstep : Hid (decInstr bs nn (1 + rd bs 1 4) at' = (⟨rd bs at' 3, 1 + rd bs (at' + 1) 4, 0⟩, at' + 2)) := if_pos o0
            have e4 := rd_rng (bs := bs) (at_ := at' + 1) (k := 4) (by omega)
            have t0 : (rd bs at' 3 == 0) = true := by simpa using o0
            clear o0
            go_wp2_with fail
            refine (coder_any A cap bs r at' _ _ w.heap.size hI.cod (hx.below hI.bel) hwf (by omega) (by omega) (by omega)).mono ?_; rintro e wa ⟨rfl, hg, hc⟩
            have hI2 := hI.num hg hc
            have hrow2 := hrow.kept hg (row_ne hrow hI.cod (by decide))
            have hgo2 := hgo.trans hg
            clear hg hc hI hrow hgo
            go_wp2_with fail
            refine (coder_any A cap bs r (at' + 1) _ _ w.heap.size (hI2.cod.alloc _) (hx.below (hI2.alloc _).bel) hwf (by omega) (by omega) (by omega)).mono ?_; rintro e wb ⟨rfl, hg, hc⟩
            have hIA := hI2.alloc (.cells #[.int .i64 (rd bs at' 3), .int .i64 0, .int .i64 0] 112)
            have hrA := hrow2.alloc (.cells #[.int .i64 (rd bs at' 3), .int .i64 0, .int .i64 0] 112)
            have hI3 := hIA.num hg hc
            have hb9 : Blk wb wa.heap.size 112 #[.int .i64 (rd bs at' 3), .int .i64 0, .int .i64 0] := (Blk.new wa _ _).grown hg (by have := hI2.rlt; simp; omega)
            have hrow3 := hrA.kept hg (row_ne hrA hIA.cod (by decide))
            clear hIA hrA
            have hgo3 := (grown_alloc (o := .cells #[.int .i64 (rd bs at' 3), .int .i64 0, .int .i64 0] 112) hgo2).trans hg
            have q9 := hgo2.size
            have qr := hI2.cod.lt
            have q4 := hI2.box.lt
            have q2 := hI2.res.lt
            have q0 := hI2.size
            have hne9 := row_ne_ge hrow2 (Nat.le_refl _)
            clear hg hc hI2 hrow2 hgo2
            obtain ⟨g9, hg9⟩ : ∃ g9, g9 = wa.heap.size := ⟨_, rfl⟩
            simp only [← hg9] at hb9 q9 qr q4 q2 q0 hne9 ⊢
            clear hg9
            have hrowS := fun u => hrow3.kept (grown_set (p := ⟨g9, 1, none⟩) (u := u) (grown_refl wb (some g9)) (.inr rfl)) hne9
            have c0 := (hb9.cell 0).trans (show _ = some (Value.int .i64 (rd bs at' 3)) from rfl)
            have c1 := (hb9.cell 1).trans (show _ = some (Value.int .i64 0) from rfl)
            have c2 := (hb9.cell 2).trans (show _ = some (Value.int .i64 0) from rfl)
            have hf9 := hb9.frozen
            go_wp2_with (first | (at_builtin; refine wpList_append_own_at _ rfl _ _ 110 rfl wo.heap.size 112 i58 (.agg #[.int .i64 0, .int .i64 0, .int .i64 0]) 3 24 Tryz.underlying110 hi58 hz58 hs58 hb58 rfl (by decide) _ _ _ rfl ((hrowS _).alloc _) ⟨wb.heap.size, 0, none⟩ 1 1 [.int .i64 (rd bs at' 3), .int .i64 (1 + rd bs (at' + 1) 4), .int .i64 0] rfl rfl ?c1 ?c2 ?c3 ?c4 ?c5 ?_) | fail)
            case c1 => exact cells_new_at (by simp)
            case c2 => intro u hu; simp at hu; rcases hu with rfl | rfl | rfl <;> rfl
            case c3 => unfold maxLen; omega
            case c4 => omega
            case c5 => have := hgo3.size; simp; omega
            intro v' w' hown' hgrow _ _
            have hI5 := ((hI3.other ⟨g9, 1, none⟩ (.int .i64 (1 + rd bs (at' + 1) 4)) (by simp; omega) (by simp; omega) (by simp; omega) (by simp; omega)).alloc (.cells #[.int .i64 (rd bs at' 3), .int .i64 (1 + rd bs (at' + 1) 4), .int .i64 0] 112)).grown hgrow (fun x e => by have := (rowlt x e).1; omega) nr n4 n2
            have hgo5 := grown_new (grown_alloc (o := .cells #[.int .i64 (rd bs at' 3), .int .i64 (1 + rd bs (at' + 1) 4), .int .i64 0] 112) (grown_set (p := ⟨g9, 1, none⟩) (u := (.int .i64 (1 + rd bs (at' + 1) 4))) hgo3 (.inl q9))) hgrow (fun x e => .inl (rowlt x e).1)
            clear hgrow hI3 hgo3 hb9 hrow3 hrowS c0 c1 c2 hf9 hne9 nr n4 n2 rowlt
            go_wp2
            go_roundw
            case rel => exact ⟨j', at' + 2, ac ++ [⟨rd bs at' 3, 1 + rd bs (at' + 1) 4, 0⟩], by go_num, hI5, hgo5, by simpa [Ins.enc] using hown', by simp; omega, by omega, by
              have h := hf2.out
              simp only [decProg, hstep.out] at h
              exact h⟩
            case measure => simp [intOf] <;> omega
          · have t0 : (rd bs at' 3 == 0) = false := by simpa using o0
            by_cases o1 : rd bs at' 3 = 1
            · have hstep : Hid (decInstr bs nn (1 + rd bs 1 4) at' = (⟨rd bs at' 3, rd bs (at' + 1) nn, rd bs (at' + 2) (1 + rd bs 1 4)⟩, at' + 3)) := (if_neg o0).trans (if_pos o1)
              have e5 := rd_rng (bs := bs) (at_ := at' + 1) (k := nn) (by omega)
              have e6 := rd_rng (bs := bs) (at_ := at' + 2) (k := 1 + rd bs 1 4) (by omega)
              have t1 : (rd bs at' 3 == 1) = true := by simpa using o1
              clear o0 o1
              go_wp2_with fail
              refine (coder_any A cap bs r at' _ _ w.heap.size hI.cod (hx.below hI.bel) hwf (by omega) (by omega) (by omega)).mono ?_; rintro e wa ⟨rfl, hg, hc⟩
              have hI2 := hI.num hg hc
              have hrow2 := hrow.kept hg (row_ne hrow hI.cod (by decide))
              have hgo2 := hgo.trans hg
              clear hg hc hI hrow hgo
              go_wp2_with fail
              refine (coder_any A cap bs r (at' + 1) _ _ w.heap.size (hI2.cod.alloc _) (hx.below (hI2.alloc _).bel) hwf (by omega) (by omega) (by omega)).mono ?_; rintro e wb ⟨rfl, hg, hc⟩
              have hIA := hI2.alloc (.cells #[.int .i64 (rd bs at' 3), .int .i64 0, .int .i64 0] 112)
              have hrA := hrow2.alloc (.cells #[.int .i64 (rd bs at' 3), .int .i64 0, .int .i64 0] 112)
              have hI3 := hIA.num hg hc
              have hb9 : Blk wb wa.heap.size 112 #[.int .i64 (rd bs at' 3), .int .i64 0, .int .i64 0] := (Blk.new wa _ _).grown hg (by have := hI2.rlt; simp; omega)
              have hrow3 := hrA.kept hg (row_ne hrA hIA.cod (by decide))
              clear hIA hrA
              have hgo3 := (grown_alloc (o := .cells #[.int .i64 (rd bs at' 3), .int .i64 0, .int .i64 0] 112) hgo2).trans hg
              have q9 := hgo2.size
              have qr := hI2.cod.lt
              have q4 := hI2.box.lt
              have q2 := hI2.res.lt
              have q0 := hI2.size
              have hne9 := row_ne_ge hrow2 (Nat.le_refl _)
              clear hg hc hI2 hrow2 hgo2
              obtain ⟨g9, hg9⟩ : ∃ g9, g9 = wa.heap.size := ⟨_, rfl⟩
              simp only [← hg9] at hb9 q9 qr q4 q2 q0 hne9 ⊢
              clear hg9
              have hrowS := fun u => hrow3.kept (grown_set (p := ⟨g9, 1, none⟩) (u := u) (grown_refl wb (some g9)) (.inr rfl)) hne9
              have c0 := (hb9.cell 0).trans (show _ = some (Value.int .i64 (rd bs at' 3)) from rfl)
              have c1 := (hb9.cell 1).trans (show _ = some (Value.int .i64 0) from rfl)
              have c2 := (hb9.cell 2).trans (show _ = some (Value.int .i64 0) from rfl)
              have hf9 := hb9.frozen
              have cl := (hI3.box.cell 1).trans (show _ = some (Value.int .i64 (1 + rd bs 1 4)) from rfl)
              go_wp2_with fail
              clear cl
              have hI4 := hI3.other ⟨g9, 1, none⟩ (.int .i64 (rd bs (at' + 1) nn)) (by simp; omega) (by simp; omega) (by simp; omega) (by simp; omega)
              have hgo4 := grown_set (p := ⟨g9, 1, none⟩) (u := (.int .i64 (rd bs (at' + 1) nn))) hgo3 (.inl q9)
              have hrow4 := hrowS (.int .i64 (rd bs (at' + 1) nn))
              have hb9' := hb9.set_ 1 (.int .i64 (rd bs (at' + 1) nn))
              clear hI3 hgo3 hrow3 hrowS hb9 c0 c1 c2 hf9
              refine (coder_any A cap bs r (at' + 2) _ _ w.heap.size hI4.cod (hx.below hI4.bel) hwf (by omega) (by omega) (by omega)).mono ?_; rintro e wc ⟨rfl, hg, hc⟩
              have hI3 := hI4.num hg hc
              have hb9 := hb9'.grown hg (by simp; omega)
              have hrow3 := hrow4.kept hg (row_ne hrow4 hI4.cod (by decide))
              have hgo3 := hgo4.trans hg
              clear hg hc hI4 hrow4 hgo4 hb9'
              have hrowS := fun u => hrow3.kept (grown_set (p := ⟨g9, 2, none⟩) (u := u) (grown_refl wc (some g9)) (.inr rfl)) hne9
              have c0 := (hb9.cell 0).trans (show _ = some (Value.int .i64 (rd bs at' 3)) from rfl)
              have c1 := (hb9.cell 1).trans (show _ = some (Value.int .i64 (rd bs (at' + 1) nn)) from rfl)
              have c2 := (hb9.cell 2).trans (show _ = some (Value.int .i64 0) from rfl)
              have hf9 := hb9.frozen
              go_wp2_with (first | (at_builtin; refine wpList_append_own_at _ rfl _ _ 110 rfl wo.heap.size 112 i58 (.agg #[.int .i64 0, .int .i64 0, .int .i64 0]) 3 24 Tryz.underlying110 hi58 hz58 hs58 hb58 rfl (by decide) _ _ _ rfl ((hrowS _).alloc _) ⟨wc.heap.size, 0, none⟩ 1 1 [.int .i64 (rd bs at' 3), .int .i64 (rd bs (at' + 1) nn), .int .i64 (rd bs (at' + 2) (1 + rd bs 1 4))] rfl rfl ?c1 ?c2 ?c3 ?c4 ?c5 ?_) | fail)
              case c1 => exact cells_new_at (by simp)
              case c2 => intro u hu; simp at hu; rcases hu with rfl | rfl | rfl <;> rfl
              case c3 => unfold maxLen; omega
              case c4 => omega
              case c5 => have := hgo3.size; simp; omega
              intro v' w' hown' hgrow _ _
              have hI5 := ((hI3.other ⟨g9, 2, none⟩ (.int .i64 (rd bs (at' + 2) (1 + rd bs 1 4))) (by simp; omega) (by simp; omega) (by simp; omega) (by simp; omega)).alloc (.cells #[.int .i64 (rd bs at' 3), .int .i64 (rd bs (at' + 1) nn), .int .i64 (rd bs (at' + 2) (1 + rd bs 1 4))] 112)).grown hgrow (fun x e => by have := (rowlt x e).1; omega) nr n4 n2
              have hgo5 := grown_new (grown_alloc (o := .cells #[.int .i64 (rd bs at' 3), .int .i64 (rd bs (at' + 1) nn), .int .i64 (rd bs (at' + 2) (1 + rd bs 1 4))] 112) (grown_set (p := ⟨g9, 2, none⟩) (u := (.int .i64 (rd bs (at' + 2) (1 + rd bs 1 4)))) hgo3 (.inl q9))) hgrow (fun x e => .inl (rowlt x e).1)
              clear hgrow hI3 hgo3 hb9 hrow3 hrowS c0 c1 c2 hf9 hne9 nr n4 n2 rowlt
              go_wp2
              go_roundw
              case rel => exact ⟨j', at' + 3, ac ++ [⟨rd bs at' 3, rd bs (at' + 1) nn, rd bs (at' + 2) (1 + rd bs 1 4)⟩], by go_num, hI5, hgo5, by simpa [Ins.enc] using hown', by simp; omega, by omega, by
                have h := hf2.out
                simp only [decProg, hstep.out] at h
                exact h⟩
              case measure => simp [intOf] <;> omega
            · have hstep : Hid (decInstr bs nn (1 + rd bs 1 4) at' = (⟨rd bs at' 3, rd bs (at' + 1) 4, 0⟩, at' + 2)) := (if_neg o0).trans (if_neg o1)
              have e4 := rd_rng (bs := bs) (at_ := at' + 1) (k := 4) (by omega)
              have t1 : (rd bs at' 3 == 1) = false := by simpa using o1
              clear o0 o1
              go_wp2_with fail
              refine (coder_any A cap bs r at' _ _ w.heap.size hI.cod (hx.below hI.bel) hwf (by omega) (by omega) (by omega)).mono ?_; rintro e wa ⟨rfl, hg, hc⟩
              have hI2 := hI.num hg hc
              have hrow2 := hrow.kept hg (row_ne hrow hI.cod (by decide))
              have hgo2 := hgo.trans hg
              clear hg hc hI hrow hgo
              go_wp2_with fail
              refine (coder_any A cap bs r (at' + 1) _ _ w.heap.size (hI2.cod.alloc _) (hx.below (hI2.alloc _).bel) hwf (by omega) (by omega) (by omega)).mono ?_; rintro e wb ⟨rfl, hg, hc⟩
              have hIA := hI2.alloc (.cells #[.int .i64 (rd bs at' 3), .int .i64 0, .int .i64 0] 112)
              have hrA := hrow2.alloc (.cells #[.int .i64 (rd bs at' 3), .int .i64 0, .int .i64 0] 112)
              have hI3 := hIA.num hg hc
              have hb9 : Blk wb wa.heap.size 112 #[.int .i64 (rd bs at' 3), .int .i64 0, .int .i64 0] := (Blk.new wa _ _).grown hg (by have := hI2.rlt; simp; omega)
              have hrow3 := hrA.kept hg (row_ne hrA hIA.cod (by decide))
              clear hIA hrA
              have hgo3 := (grown_alloc (o := .cells #[.int .i64 (rd bs at' 3), .int .i64 0, .int .i64 0] 112) hgo2).trans hg
              have q9 := hgo2.size
              have qr := hI2.cod.lt
              have q4 := hI2.box.lt
              have q2 := hI2.res.lt
              have q0 := hI2.size
              have hne9 := row_ne_ge hrow2 (Nat.le_refl _)
              clear hg hc hI2 hrow2 hgo2
              obtain ⟨g9, hg9⟩ : ∃ g9, g9 = wa.heap.size := ⟨_, rfl⟩
              simp only [← hg9] at hb9 q9 qr q4 q2 q0 hne9 ⊢
              clear hg9
              have hrowS := fun u => hrow3.kept (grown_set (p := ⟨g9, 1, none⟩) (u := u) (grown_refl wb (some g9)) (.inr rfl)) hne9
              have c0 := (hb9.cell 0).trans (show _ = some (Value.int .i64 (rd bs at' 3)) from rfl)
              have c1 := (hb9.cell 1).trans (show _ = some (Value.int .i64 0) from rfl)
              have c2 := (hb9.cell 2).trans (show _ = some (Value.int .i64 0) from rfl)
              have hf9 := hb9.frozen
              go_wp2_with (first | (at_builtin; refine wpList_append_own_at _ rfl _ _ 110 rfl wo.heap.size 112 i58 (.agg #[.int .i64 0, .int .i64 0, .int .i64 0]) 3 24 Tryz.underlying110 hi58 hz58 hs58 hb58 rfl (by decide) _ _ _ rfl ((hrowS _).alloc _) ⟨wb.heap.size, 0, none⟩ 1 1 [.int .i64 (rd bs at' 3), .int .i64 (rd bs (at' + 1) 4), .int .i64 0] rfl rfl ?c1 ?c2 ?c3 ?c4 ?c5 ?_) | fail)
              case c1 => exact cells_new_at (by simp)
              case c2 => intro u hu; simp at hu; rcases hu with rfl | rfl | rfl <;> rfl
              case c3 => unfold maxLen; omega
              case c4 => omega
              case c5 => have := hgo3.size; simp; omega
              intro v' w' hown' hgrow _ _
              have hI5 := ((hI3.other ⟨g9, 1, none⟩ (.int .i64 (rd bs (at' + 1) 4)) (by simp; omega) (by simp; omega) (by simp; omega) (by simp; omega)).alloc (.cells #[.int .i64 (rd bs at' 3), .int .i64 (rd bs (at' + 1) 4), .int .i64 0] 112)).grown hgrow (fun x e => by have := (rowlt x e).1; omega) nr n4 n2
              have hgo5 := grown_new (grown_alloc (o := .cells #[.int .i64 (rd bs at' 3), .int .i64 (rd bs (at' + 1) 4), .int .i64 0] 112) (grown_set (p := ⟨g9, 1, none⟩) (u := (.int .i64 (rd bs (at' + 1) 4))) hgo3 (.inl q9))) hgrow (fun x e => .inl (rowlt x e).1)
              clear hgrow hI3 hgo3 hb9 hrow3 hrowS c0 c1 c2 hf9 hne9 nr n4 n2 rowlt
              go_wp2
              go_roundw
              case rel => exact ⟨j', at' + 2, ac ++ [⟨rd bs at' 3, rd bs (at' + 1) 4, 0⟩], by go_num, hI5, hgo5, by simpa [Ins.enc] using hown', by simp; omega, by omega, by
                have h := hf2.out
                simp only [decProg, hstep.out] at h
                exact h⟩
              case measure => simp [intOf] <;> omega
        · skip
          obtain ⟨Ap, cp, hu7⟩ := row_slice hrow
          subst hu7
          have hcl := (hI.box.cell 9).trans (show _ = some v9 from rfl)
          have hf4 := hI.box.frozen
          have hownI := hownC.kept hgo hneC
          have hprI := hprC.kept hgo hprN
          have h4b : some g4 ≠ v9.ownBlock := blk_row hI.box hownI (by decide)
          have hrb : some r ≠ v9.ownBlock := blk_row hI.cod hownI (by decide)
          have h2b : some g2 ≠ v9.ownBlock := blk_row hI.res hownI (by decide)
          have hlow := hownI.lt
          have hz := hI.size
          have hIA := hI.alloc (.cells #[.slice Ap ac.length cp] 110)
          have hownA := hownI.alloc (.cells #[.slice Ap ac.length cp] 110)
          have hrowA := (row_down hrow hD0).alloc (.cells #[.slice Ap ac.length cp] 110)
          have hprA := hprI.kept (World.grownBy_alloc _ (.cells #[.slice Ap ac.length cp] 110) none) (fun u n xs h => by cases hv : u.ownBlock <;> simp)
          go_wp2_with (first | (at_builtin; go_loud (refine wpList_append_own_at _ rfl _ _ 25 rfl w.heap.size 110 i40 (.slice none 0 0) 1 24 Tryz.underlying25 hi40 hz40 hs40 hb40 rfl (by decide) _ _ _ rfl hownA ⟨wr.heap.size, 0, none⟩ 1 1 [.slice Ap ac.length cp] rfl rfl ?c1 ?c2 ?c3 ?c4 ?c5 ?_)) | fail)
          case c1 => exact cells_new_at (by simp)
          case c2 => intro u hu; simp at hu; subst hu; rfl
          case c3 => have := hak.out; unfold maxLen; omega
          case c4 => have := hak.out; omega
          case c5 => simp; omega
          intro v' w' hown' hgrow _ _
          obtain ⟨Av, cv, hv'⟩ := row_slice hown'
          subst hv'
          have hI5 := hIA.grown hgrow (fun x e => (hlow x e).1) hrb h4b h2b
          have hrow5 := hrowA.kept hgrow (rows_ne hrowA hownA (by decide))
          have hpr5 := (hprA.kept hgrow (fun u n xs h => rows_ne h hownA (by decide))).push hrow5
          have hpr6 := fun u => hpr5.kept (grown_set (p := ⟨g4, 9, none⟩) (u := u) (grown_refl w' (some g4)) (.inr rfl)) (fun _ _ _ h => row_ne h hI5.box (by decide))
          have hown6 := fun u => row_set hown' hI5.box (by decide) 9 u
          have hD6 : DSt w A bs.length cap r g2 g4 at' (cfgC (1 + rd bs 0 4) (1 + rd bs 1 4) (1 + rd bs 2 m) (1 + rd bs 3 12) (1 + rd bs 4 4) (1 + rd bs 5 4) (1 + rd bs 6 (1 + rd bs 4 4)) (rd bs 7 6) (1 + rd bs 8 8) (.slice Av (acc.length + 1) cv) (.slice none 0 0)) (w'.setCell ⟨g4, 9, none⟩ (.slice Av (acc.length + 1) cv)) := hI5.store 9 (.slice Av (acc.length + 1) cv)
          have hcl' := (hI5.box.cell 9).trans (show _ = some v9 from rfl)
          have hf4' := hI5.box.frozen
          clear hI hrow hgo hcl hf4 hownI hprI h4b hrb h2b hlow hIA hownA hrowA hprA hown' hgrow hI5 hrow5 hpr5 hownC hprC hneC hprN
          go_wp2
          go_roundw
          case rel => exact ⟨k + 1, at', .slice Av (acc.length + 1) cv, vs ++ [.slice Ap ac.length cp], acc ++ [ac], by omega, by go_num, hD6, by simpa using hown6 (.slice Av (acc.length + 1) cv), hpr6 _, by
              intro p hp
              rcases List.mem_append.1 hp with h | h
              · exact hp5 p h
              · simp at h; subst h; omega, by have := hak.out; simp; omega, by omega, by
              have h := hfin.out
              have h2 := hf2.out
              have e0 : j = 0 := by omega
              subst e0
              rw [show nn - k = (nn - (k + 1)) + 1 from by omega] at h
              simp only [decProgs, hj0.out, Int.toNat_natCast, ← h2] at h
              exact h⟩
          case measure => simp [intOf] <;> omega
    · go_wp2_with fail
      have hkk : k = nn := by omega
      refine (coder_any A cap bs r at_ _ _ w.heap.size hD.cod (hx.below hD.bel) hwf (by omega) (by omega) (by omega)).mono ?_; rintro e ws ⟨rfl, hg, hc⟩
      have hS0 := SSt.num ⟨hD, hown, hpr, World.ownsRow_nil wr w.heap.size 114 3⟩ (ss := []) hg hc
      clear hg hc hown hpr hD
      have rj := rd_rng (bs := bs) (at_ := at_) (k := 6) (by omega)
      obtain ⟨j0, hj0⟩ : ∃ j0 : Nat, rd bs at_ 6 = (j0 : Int) := ⟨(rd bs at_ 6).toNat, by omega⟩
      have hj5 : j0 ≤ 5 := by omega
      go_wp2_with fail
      try simp only [hj0]
      replace hj0 := Lib.hid hj0
      clear rj
      go_loopw [10] (fun i wi => ∃ (j at' : Nat) (v10 : Value) (ss : List Sub), i = .int .i64 j ∧ SSt w A bs.length cap r g2 g4 at' (cfgC (1 + rd bs 0 4) (1 + rd bs 1 4) (1 + rd bs 2 m) (1 + rd bs 3 12) (1 + rd bs 4 4) (1 + rd bs 5 4) (1 + rd bs 6 (1 + rd bs 4 4)) (rd bs 7 6) (1 + rd bs 8 8) v9 v10) wi v9 vs acc v10 ss ∧ ss.length + j ≤ 5 ∧ at' + 3 * j ≤ at_ + 16 ∧ Hid (decSubs bs nn (1 + rd bs 1 4) j at' ss = decSubs bs nn (1 + rd bs 1 4) j0 (at_ + 1) [])) (fun i _ => (intOf i).toNat)
      case atStart => exact ⟨j0, at_ + 1, .slice none 0 0, [], rfl, hS0, by simp; omega, by omega, rfl⟩
      case round =>
        clear hS0
        obtain ⟨j, at', v10, ss, rfl, hI, hlen, hat', hf2⟩ := hrel
        obtain ⟨Av, cv, hv10⟩ := row_slice hI.s
        subst hv10
        by_cases hj : 0 < j
        · obtain ⟨j', rfl⟩ : ∃ j', j = j' + 1 := ⟨j - 1, by omega⟩
          have e4 := rd_rng (bs := bs) (at_ := at') (k := nn) (by omega)
          have e5 := rd_rng (bs := bs) (at_ := at' + 1) (k := 1 + rd bs 1 4) (by omega)
          have e6 := rd_rng (bs := bs) (at_ := at' + 2) (k := 16) (by omega)
          go_wp2_with fail
          refine (coder_any A cap bs r at' _ _ w.heap.size hI.d.cod (hx.below hI.d.bel) hwf (by omega) (by omega) (by omega)).mono ?_; rintro e wa ⟨rfl, hg, hc⟩
          have hIa := hI.num hg hc
          clear hg hc hI
          have hIA := hIa.alloc (.cells #[.int .i64 (rd bs at' nn), .int .i64 0, .int .i64 0] 114)
          have hb9 := Blk.new wa 114 #[.int .i64 (rd bs at' nn), .int .i64 0, .int .i64 0]
          have q4 := hIa.d.box.lt
          have q0 := hIa.d.size
          have hne := row_ne_ge hIa.s (Nat.le_refl _)
          have cl := (hIA.d.box.cell 1).trans (show _ = some (Value.int .i64 (1 + rd bs 1 4)) from rfl)
          clear hIa
          go_wp2_with fail
          clear cl
          refine (coder_any A cap bs r (at' + 1) _ _ w.heap.size hIA.d.cod (hx.below hIA.d.bel) hwf (by omega) (by omega) (by omega)).mono ?_; rintro e wb ⟨rfl, hg, hc⟩
          obtain ⟨g9, hg9⟩ : ∃ g9, g9 = wa.heap.size := ⟨_, rfl⟩
          simp only [← hg9] at hb9 q4 q0 hne ⊢
          clear hg9
          have hIb := hIA.num hg hc
          have hbb := hb9.grown hg (by have := blk_ne hb9 hIA.d.cod (by decide); simp; exact this)
          clear hg hc hIA hb9
          have c0 := (hbb.cell 1).trans (show _ = some (Value.int .i64 0) from rfl)
          have f0 := hbb.frozen
          go_wp2_with fail
          clear c0 f0
          have hIB := hIb.other hbb hne q0 1 (.int .i64 (rd bs (at' + 1) (1 + rd bs 1 4)))
          have hbB := hbb.set_ 1 (.int .i64 (rd bs (at' + 1) (1 + rd bs 1 4)))
          clear hIb hbb
          refine (coder_any A cap bs r (at' + 2) _ _ w.heap.size hIB.d.cod (hx.below hIB.d.bel) hwf (by omega) (by omega) (by omega)).mono ?_; rintro e wc ⟨rfl, hg, hc⟩
          have hIc := hIB.num hg hc
          have hbc := hbB.grown hg (by have := blk_ne hbB hIB.d.cod (by decide); simp; exact this)
          clear hg hc hIB hbB
          have c0 := (hbc.cell 0).trans (show _ = some (Value.int .i64 (rd bs at' nn)) from rfl)
          have c1 := (hbc.cell 1).trans (show _ = some (Value.int .i64 (rd bs (at' + 1) (1 + rd bs 1 4))) from rfl)
          have c2 := (hbc.cell 2).trans (show _ = some (Value.int .i64 0) from rfl)
          have f9 := hbc.frozen
          have cx := (hIc.d.box.cell 10).trans (show _ = some (Value.slice Av ss.length cv) from rfl)
          have hID := (hIc.other hbc hne q0 2 (.int .i64 (rd bs (at' + 2) 16))).alloc (.cells #[.int .i64 (rd bs at' nn), .int .i64 (rd bs (at' + 1) (1 + rd bs 1 4)), .int .i64 (rd bs (at' + 2) 16)] 114)
          have hsz := hIc.d.size
          clear hIc hbc
          go_wp2_with (first | (at_builtin; go_loud (refine wpList_append_own_at _ rfl _ _ 26 rfl w.heap.size 114 i60 (.agg #[.int .i64 0, .int .i64 0, .int .i64 0]) 3 24 Tryz.underlying26 hi60 hz60 hs60 hb60 rfl (by decide) _ _ _ rfl hID.s ⟨wc.heap.size, 0, none⟩ 1 1 [.int .i64 (rd bs at' nn), .int .i64 (rd bs (at' + 1) (1 + rd bs 1 4)), .int .i64 (rd bs (at' + 2) 16)] rfl rfl ?c1 ?c2 ?c3 ?c4 ?c5 ?_)) | fail)
          case c1 => exact cells_new_at (by simp)
          case c2 => intro u hu; simp at hu; rcases hu with rfl | rfl | rfl <;> rfl
          case c3 => unfold maxLen; omega
          case c4 => omega
          case c5 => simp; omega
          intro v' w' hown' hgrow _ _
          obtain ⟨Aw, cw, hvw⟩ := row_slice hown'
          subst hvw
          have hIE := hID.app (x := ⟨rd bs at' nn, rd bs (at' + 1) (1 + rd bs 1 4), rd bs (at' + 2) 16⟩) hown' hgrow
          have hIF : SSt w A bs.length cap r g2 g4 (at' + 3) (cfgC (1 + rd bs 0 4) (1 + rd bs 1 4) (1 + rd bs 2 m) (1 + rd bs 3 12) (1 + rd bs 4 4) (1 + rd bs 5 4) (1 + rd bs 6 (1 + rd bs 4 4)) (rd bs 7 6) (1 + rd bs 8 8) v9 (.slice Aw (ss.length + 1) cw)) _ v9 vs acc _ _ := hIE.store 10 (.slice Aw (ss.length + 1) cw)
          have cy := (hIE.d.box.cell 10).trans (show _ = some (Value.slice Av ss.length cv) from rfl)
          have fy := hIE.d.box.frozen
          clear hID hIE hown' hgrow c0 c1 c2 f9 cx
          go_wp2
          go_roundw
          case rel => exact ⟨j', at' + 3, .slice Aw (ss.length + 1) cw, ss ++ [⟨rd bs at' nn, rd bs (at' + 1) (1 + rd bs 1 4), rd bs (at' + 2) 16⟩], by go_num, hIF, by simp; omega, by omega, by
            have h := hf2.out
            simp only [decSubs] at h
            exact h⟩
          case measure => simp [intOf] <;> omega
        · have e0 : j = 0 := by omega
          subst e0
          obtain ⟨Ap, cp, hv9⟩ := row_slice hI.p
          subst hv9
          have cA := hI.d.box.cell
          have fA := hI.d.box.frozen
          have cB := hI.d.res.cell
          have fB := hI.d.res.frozen
          go_wp2
          have hpp : decPs bs = (acc, at_) := by
            have h := hfin.out
            rw [show nn - k = 0 from by omega] at h
            unfold decPs decN decLv
            rw [hnn.out, Int.toNat_natCast]
            exact h.symm
          have hss : (decode bs).subs = ss := by
            have h := hf2.out
            show decSubs bs (decN bs) (decLv bs) (rd bs (decPs bs).2 6).toNat ((decPs bs).2 + 1) [] = ss
            rw [hpp]
            unfold decN decLv
            rw [hnn.out]
            simp only [hj0.out, Int.toNat_natCast]
            exact h.symm
          have hprog : (decode bs).progs = acc := by show (decPs bs).1 = acc; rw [hpp]
          have hcla : (decode bs).classes = 1 + rd bs 2 m := by rw [hm.out]; rfl
          have hv : cfgV (decode bs) ⟨Ap, cp, Av, cv⟩ = .agg (cfgC (1 + rd bs 0 4) (1 + rd bs 1 4) (1 + rd bs 2 m) (1 + rd bs 3 12) (1 + rd bs 4 4) (1 + rd bs 5 4) (1 + rd bs 6 (1 + rd bs 4 4)) (rd bs 7 6) (1 + rd bs 8 8) (.slice Ap acc.length cp) (.slice Av ss.length cv)) := by
            simp only [cfgV, hss, hprog, hcla]
            rfl
          replace hv := Lib.hid hv
          replace hpp := Lib.hid hpp
          replace hss := Lib.hid hss
          replace hprog := Lib.hid hprog
          clear hcla
          refine bodyPost_ret (v := .agg (cfgC (1 + rd bs 0 4) (1 + rd bs 1 4) (1 + rd bs 2 m) (1 + rd bs 3 12) (1 + rd bs 4 4) (1 + rd bs 5 4) (1 + rd bs 6 (1 + rd bs 4 4)) (rd bs 7 6) (1 + rd bs 8 8) (.slice Ap acc.length cp) (.slice Av ss.length cv))) (by simp [results, Tryz.results24, go_sem, cB]) rfl ?_
          have hD1 := fun (w1 : World) (h : wr.grownBy w1 (some g2)) => hI.done (C := decode bs) h hprog.out hss.out (by have := hak.out; omega) hp5 (by omega)
          refine ⟨⟨⟨Ap, cp, Av, cv⟩, by rw [hv.out], (hD1 _ ?_).1⟩, (hD1 _ ?_).2⟩
          · repeat' (first | (with_reducible refine grown_set ?_ (.inr rfl)) | (with_reducible exact grown_refl _ _))
          · repeat' (first | (with_reducible refine grown_set ?_ (.inr rfl)) | (with_reducible exact grown_refl _ _))
end Go.Proofs.YtpbkelpokpglaaaGreat
