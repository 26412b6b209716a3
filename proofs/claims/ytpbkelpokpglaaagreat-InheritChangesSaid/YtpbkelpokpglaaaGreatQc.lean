/- Rows that are written; what is owned seen as what came in; pieces. No program occurs here. Regions that draw their order, operation by operation: one that looks at no memory may be taken first; one that alone may come up; a group that only reads. No program occurs here. Objects that are owned; a range over a function whose rounds are told what lies at their argument. No program occurs here. What a call has made and hands back, held to be read: no program occurs here. What is held to be read by many; rows of things that hold a list of numbers; entailments in the world. No program occurs here. -/
import Derived.Test.YtpbkelpokpglaaaGreatQb
import Derived.RangeFuncFrom
import Derived.RangeFuncLeaves
import Derived.RangeFuncBound
import Derived.Test.YtpbkelpokpglaaaGreatReg
set_option linter.all false
namespace Go.Proofs.YtpbkelpokpglaaaGreat
section
open Go Go.RowKit
section
variable {r : Option Nat} {P : Program} {Q : Exit → Act → World → Prop} {n B : Nat} {W : World} {R R' R0 : RList} {L L' M : List SProp} {v u : Value} {x y z : Operand} {o : Oper} {ops : Array Oper}
  {d : Option Tmp} {ty : TypeId} {ps : String} {af : Array Edge} {g : Option (Nat × Bool)} {T T' : TypeId}
/-- append of a slice whose cells are known in this world. -/
theorem append_gen {w : World} {A : Option Addr} {m cap sz k c by_ : Nat} {vs us : List Value} {b o : Nat} {E : TypeId} {z : Value} (hT : P.underlying T = some (.slice E)) (hI : infoB P E z sz by_) (hz : z.cells.size = sz) (hsz : 0 < sz)
    (hnews : ∀ j u, us[j]? = some u → w.cell? (⟨b, o + j, none⟩ : Addr) = some u)
    (s : Sat B w (rowS A m cap sz vs :: L)) (hb : Below B W w) (hl : B ≤ w.heap.size) (hu : us.length = k * sz) (ha : us.all scalar = true) (hk : 0 < k) (hlen : m + k ≤ maxLen) (hby : (m + k) * by_ ≤ 140737488355328) :
    ∃ A' cap' w', (Builtin.append_ #[T, T] ty #[.slice A m cap, .slice (some ⟨b, o, none⟩) k c]).run P w = .ok (.slice A' (m + k) cap') w' ∧ Cls B W (rowS A' (m + k) cap' sz (vs ++ us) :: L) w' := by
  obtain ⟨i, hi, hz1, rfl, rfl⟩ := hI
  have hnews' : ∀ j u, us[j]? = some u → w.cell? ((⟨b, o, none⟩ : Addr).add j) = some u := fun j u hj => by rw [addr_plus]; exact hnews j u hj
  obtain ⟨r1, r2, r3, r4⟩ := sat_rowS s (List.mem_cons_self ..)
  have hgc := grownCap_ge w (m + k) cap E
  have hgm := grownCap_le_maxLen w (m + k) cap E hlen
  have fresh : ∀ xs : List Value, xs.length = (m + k) * i.size → xs = vs ++ us → ∀ (zs : Array Value), zs.size = (grownCap w (m + k) cap E - (m + k)) * i.size →
      Cls B W (rowS (some ⟨w.heap.size, 0, none⟩) (m + k) (grownCap w (m + k) cap E) i.size (vs ++ us) :: L) (w.drew.alloc (.cells (xs.toArray ++ zs) E)) := by
    intro xs hxl hx zs hzl
    have s1 : Sat B w.drew L := (s.drop).below ((Below.refl _ _).drew)
    have s2 := s1.fresh (cs := xs.toArray ++ zs) (T := E) hl
    refine ⟨below_fresh hb.drew hl _, by simpa using Nat.le_succ_of_le hl, ?_⟩
    refine s2.imp fun h => star_head fun h hp => ?_
    refine ⟨by rw [← hx]; exact hxl, hgc, hgm, .inr ⟨w.heap.size, 0, zs.toList, rfl, by simpa using hzl, ?_⟩⟩
    have e : (xs.toArray ++ zs).toList = vs ++ us ++ zs.toList := by rw [hx]; simp
    rw [e] at hp; exact hp
  have hzc : ∀ q, (Builtin.zeroCells z.cells q).size = q * i.size := fun q => by rw [size_zeroCells, hz]
  rcases r4 with ⟨rfl, rfl⟩ | ⟨b', o', rfl, hcells⟩
  · obtain rfl : m = 0 := by omega
    have hv : vs = [] := List.length_eq_zero_iff.1 (by rw [r1]; simp)
    subst hv
    rw [Nat.zero_add] at *
    have hr := run_append_nil (P := P) w T ty E i z hT hi hz1 ⟨b, o, none⟩ k c us hu hnews' hk (by unfold maxLen at hlen; omega) (by omega)
    exact ⟨_, _, _, hr, fresh us hu (by simp) _ (hzc _)⟩
  · by_cases hroom : m + k ≤ cap
    · obtain ⟨h, H, k1, k2, ap, e, ⟨_, _, _, h4⟩, hL⟩ := s
      rcases h4 with ⟨h4, _⟩ | ⟨b2, o2, spare, he, hsp, hp⟩
      · cases h4
      · obtain ⟨rfl, rfl⟩ : b' = b2 ∧ o' = o2 := by
          have := Option.some.inj he; exact ⟨congrArg Addr.block this, congrArg Addr.off this⟩
        have s' : Sat B w (pts b' o' (vs ++ spare) :: L) := ⟨h, H, k1, k2, ap, e, hp, hL⟩
        have hfit : (m + k) * i.size ≤ cap * i.size := Nat.mul_le_mul_right _ hroom
        have hsp' : spare.length + m * i.size = cap * i.size := by rw [hsp, ← Nat.add_mul, Nat.sub_add_cancel r2]
        rw [Nat.add_mul] at hfit
        obtain ⟨w', hst, hc⟩ := storeCells_run (P := P) (W := W) (b := b') (o := o') (o' := o' + m * i.size) us 0 (m * i.size) (vs ++ spare) w L (by omega) ha (by simp; omega) s' hb hl
        have hf := run_firstCells_some (P := P) w i.size k ⟨b, o, none⟩ k c us hu hnews'
        refine ⟨some ⟨b', o', none⟩, cap, w', ?_, hc.1, hc.2.1, ?_⟩
        · simp [Builtin.append_, und_run hT, sizeOf, info_run hi, Builtin.lenOf, hroom, hf, addr_plus, hst]
        · refine hc.2.2.imp fun h => star_head fun h hp => ?_
          have e1 : List.take (m * i.size) (vs ++ spare) ++ us ++ List.drop (m * i.size + us.length) (vs ++ spare) = vs ++ us ++ spare.drop us.length := by
            rw [← r1, List.take_left, List.drop_append]
            simp
          rw [e1] at hp
          refine ⟨by simp [r1, hu, Nat.add_mul], hroom, r3, .inr ⟨b', o', spare.drop us.length, rfl, ?_, hp⟩⟩
          rw [List.length_drop, hu, Nat.sub_mul, Nat.add_mul]
          omega
    · have hr := run_append_grow (P := P) w T ty E i z hT hi hz1 ⟨b', o', none⟩ m cap vs r1 (fun j v hj => by rw [addr_plus]; exact hcells j v hj) ⟨b, o, none⟩ k c us hu hnews' (by omega) (by unfold maxLen at hlen; omega) (growslice_fits (by omega) hby)
      refine ⟨_, _, _, hr, ?_⟩
      have := fresh (vs ++ us) (by simp [r1, hu, Nat.add_mul]) rfl _ (hzc (grownCap w (m + k) cap E - (m + k)))
      simpa using this
end
end
section
open Go Go.RowKit
def NP (Q : Exit → Act → World → Prop) : Exit → Act → World → Prop
  | .panic _, _, _ => False
  | e, a, w => Q e a w
def noCall (o : Oper) : Bool := match o.op with
  | .call c => match c.callee with
    | .builtin _ => true
    | _ => false
  | _ => true
theorem about_none {P : Program} {o : Oper} (h : noCall o = true) (w : World) (ρ : Operand → Value) : o.about P w ρ = none := by
  unfold noCall at h
  unfold Oper.about
  split at h
  · rename_i c hc
    rw [hc]
    simp only
    split at h
    · rename_i b hb
      unfold resolve
      rw [hb]
      rfl
    · cases h
  · rename_i h1
    cases ho : o.op <;> simp only
    exact absurd ho (h1 _)
section
variable {P : Program} {ops : Array Oper} {C : World → Prop}
def ClosedL (ops : Array Oper) (listed : Array Bool) : Prop := ∀ j oj, ops[j]? = some oj → listed.getD j false = true → ∀ e ∈ oj.after, Region.binds .any e = true → listed.getD e.on false = true
structure GInv (ops : Array Oper) (H : List Nat) (l0 listed : Array Bool) : Prop where
  size : listed.size = ops.size
  closed : ClosedL ops listed
  out : ∀ j, j ∉ H → listed.getD j false = l0.getD j false
theorem ClosedL.set {listed : Array Bool} {i : Nat} (h : ClosedL ops listed) (hr : i ∈ Region.ready .any ops listed) : ClosedL ops (listed.setIfInBounds i true) := fun j oj hj hl e he hb => by
  obtain ⟨_, o, hoi, hall⟩ := mem_ready.1 hr
  by_cases hij : i = j
  · subst hij
    have : oj = o := Option.some.inj (hj.symm.trans hoi)
    subst this
    exact getD_set_true (hall e he hb)
  · rw [getD_set_ne false hij] at hl
    exact getD_set_true (h j oj hj hl e he hb)
theorem GInv.set {H : List Nat} {l0 listed : Array Bool} {i : Nat} (h : GInv ops H l0 listed) (hi : i ∈ H) (hr : i ∈ Region.ready .any ops listed) : GInv ops H l0 (listed.setIfInBounds i true) :=
  ⟨by simp [h.size], h.closed.set hr, fun j hj => by rw [getD_set_ne false (fun (e : i = j) => hj (by rw [← e]; exact hi))]; exact h.out j hj⟩
def hq (P : Program) (ops : Array Oper) (C : World → Prop) (H : List Nat) (L : Array Bool → Act → Prop) : Nat → Array Bool → Act → Prop
  | 0, listed, a => L listed a
  | f + 1, listed, a => Region.ready .any ops listed ≠ [] ∧ ∀ i ∈ Region.ready .any ops listed, i ∈ H ∧ qOp P ops C i (hq P ops C H L f (listed.setIfInBounds i true)) a
end
section
variable {P : Program} {ops : Array Oper} {Q : Exit → Act → World → Prop} {n B : Nat} {W : World} {R R' : RList} {L L' : List SProp} {listed l' : Array Bool} {k i : Nat} {o : Oper} {v : Value}
def takeB (ops : Array Oper) (listed : Array Bool) (i : Nat) : Bool := Region.noSelect ops && Region.free .any ops listed i && (Region.ready .any ops listed).contains i
end
end
section
open Go Go.RowKit
def objA (l : Nat) (o : Obj) : SProp := fun h => h l 0 = some (.obj o)
section
variable {B : Nat} {w : World} {L M : List SProp} {l : Nat} {o o' : Obj}
theorem Sat.obj (s : Sat B w (objA l o :: L)) : B ≤ l ∧ w.heap[l]? = some o ∧ Obj.plain o = true := by
  obtain ⟨h, H, k1, k2, a, e, hA, hL⟩ := s
  have := H l 0 (.obj o) (by rw [e]; unfold join; rw [show k1 l 0 = _ from hA])
  exact ⟨this.1.resolve_right id, this.2.1, this.2.2.1⟩
theorem Sat.newObj (s : Sat B w L) (hB : B ≤ w.heap.size) (hp : Obj.plain o = true) : Sat B (w.alloc o) (objA w.heap.size o :: L) := by
  obtain ⟨h, H, hL⟩ := s
  have hfar : ∀ j, h w.heap.size j = none := fun j => by
    cases e : h w.heap.size j with
    | none => rfl
    | some x => exact absurd (H _ _ _ e).2.lt (by omega)
  refine ⟨join (fun b j => if b = w.heap.size ∧ j = 0 then some (.obj o) else none) h, ?_, _, h, ?_, rfl, ?_, hL⟩
  · intro b j x hx
    unfold join at hx
    by_cases hc : b = w.heap.size ∧ j = 0
    · obtain ⟨rfl, rfl⟩ := hc
      simp only [and_self, if_true] at hx
      obtain rfl := Option.some.inj hx
      exact ⟨.inl hB, heap_alloc_new w _, hp, rfl⟩
    · simp only [if_neg hc] at hx
      have h2 := H b j x hx
      exact ⟨h2.1, h2.2.same (Below.heap_alloc w _ _ h2.2.lt)⟩
  · intro b j
    by_cases hc : b = w.heap.size ∧ j = 0
    · obtain ⟨rfl, rfl⟩ := hc; exact .inr (.inl (hfar _))
    · left; simp [hc]
  · show (if w.heap.size = w.heap.size ∧ 0 = 0 then some (Item.obj o) else none) = some (.obj o)
    simp
end
section
variable {P : Program} {Q : Exit → Act → World → Prop} {B : Nat} {W : World} {L M : List SProp}
  {ty : TypeId} {ps : String} {af : Array Edge} {g : Option (Nat × Bool)}
theorem Cls.perm {w : World} (h : Cls B W L w) (p : L.Perm M) : Cls B W M w := ⟨h.1, h.2.1, h.2.2.perm p⟩
theorem Cls.newObj {w : World} {o : Obj} (h : Cls B W L w) (hp : Obj.plain o = true) : Cls B W (objA w.heap.size o :: L) (w.alloc o) :=
  ⟨h.1.alloc h.2.1 o, by rw [World.size_alloc]; have := h.2.1; omega, h.2.2.newObj h.2.1 hp⟩
/-! ### Behind a range over a function: activations that hold a mark -/
section
variable {o : Oper} {ops : Array Oper} {n : Nat} {R R' : RList} {v : Value} {rest : List Oper}
end
end
end
section
open Go Go.RowKit
/-- u reads as w does from block n on. -/
def Reads (n : Nat) (w u : World) : Prop := ∀ b o v, n ≤ b → w.cell? ⟨b, o, none⟩ = some v → u.cell? ⟨b, o, none⟩ = some v
theorem Reads.refl (n : Nat) (w : World) : Reads n w w := fun _ _ _ _ h => h
def agrees (w : World) (h : Hp) : Prop := ∀ b o x, h b o = some x → itemOk w b o x
def heldS (Φ : World → Prop) : SProp := fun h => ∀ w, agrees w h → Φ w
section
variable {P : Program} {n B : Nat} {W : World} {R R' : RList} {L L' M : List SProp} {v u : Value} {x y z : Operand} {w w' : World} {Φ : World → Prop}
  {d : Option Tmp} {ty : TypeId} {ps : String} {af : Array Edge} {g : Option (Nat × Bool)} {T T' : TypeId}
theorem Sat.held (s : Sat B w (heldS Φ :: L)) : Φ w := by
  obtain ⟨h, H, k1, k2, a, e, hA, hL⟩ := s
  exact hA w fun b o x hx => (H b o x (by rw [e]; unfold join; rw [hx])).2
end
end
section
open Go Go.RowKit
theorem lt_of_cell {u : World} {b o : Nat} {v : Value} (h : u.cell? ⟨b, o, none⟩ = some v) : b < u.heap.size := by
  rcases Nat.lt_or_ge b u.heap.size with h1 | h1
  · exact h1
  · have e := Array.getElem?_eq_none h1
    unfold World.cell? at h; rw [e] at h; cases h
/-- An entailment that the world may help to show. -/
def SE (L L' : List SProp) : Prop := ∀ B w, Sat B w L → Sat B w L'
/-- Read only; it may be had as often as one likes. -/
def lookS (Φ : World → Prop) : SProp := fun h => ∃ k : Hp, (∀ b o x, k b o = some x → (∃ v, x = .look v) ∧ h b o = some x) ∧ ∀ w, agrees w k → Φ w
section
variable {r : Option Nat} {P : Program} {ops : Array Oper} {Q : Exit → Act → World → Prop} {n B : Nat} {W : World} {R R' : RList} {L L' L'' M : List SProp} {Φ Ψ : World → Prop} {v : Value} {x y z : Operand}
  {d : Option Tmp} {ty : TypeId} {ps : String} {af : Array Edge} {g : Option (Nat × Bool)} {T T' : TypeId}
theorem SE.of (e : Ent L L') : SE L L' := fun _ _ s => s.imp e
theorem SE.trans (h : SE L L') (k : SE L' L'') : SE L L'' := fun B w s => k B w (h B w s)
/-- An assertion with an unknown in it is opened, flat. -/
def exL {X : Type} (N : X → List SProp) : SProp := fun h => ∃ x, star (N x) h
theorem sat_open {X : Type} {N : X → List SProp} {w : World} (s : Sat B w (exL N :: L)) : ∃ x, Sat B w (N x ++ L) := by
  obtain ⟨h, H, k1, k2, a, e, ⟨x, hA⟩, hL⟩ := s
  exact ⟨x, h, H, star_append.2 ⟨k1, k2, a, e, hA, hL⟩⟩
/-! ### Held by many -/
theorem look_dup : Ent (lookS Φ :: L) (lookS Φ :: lookS Φ :: L) := fun h s => by
  obtain ⟨k1, k2, a, e, ⟨k, hk, hΦ⟩, hL⟩ := s
  refine ⟨k, h, fun b o => ?_, ?_, ⟨k, fun b o x hx => ⟨(hk b o x hx).1, hx⟩, hΦ⟩, ⟨k1, k2, a, e, ⟨k, hk, hΦ⟩, hL⟩⟩
  · cases hkb : k b o with
    | none => exact .inl rfl
    | some x =>
      obtain ⟨⟨v, rfl⟩, h2⟩ := hk b o x hkb
      refine .inr (.inr ⟨v, rfl, ?_⟩)
      rw [e]; unfold join; rw [h2]
  · funext b o
    unfold join
    cases hkb : k b o with
    | none => rfl
    | some x =>
      obtain ⟨⟨v, rfl⟩, h2⟩ := hk b o x hkb
      rw [e]; unfold join; rw [h2]
theorem look_mono (f : ∀ u, Φ u → Ψ u) : ∀ h, lookS Φ h → lookS Ψ h := fun _ ⟨k, hk, hΦ⟩ => ⟨k, hk, fun w hw => f w (hΦ w hw)⟩
theorem look_sat {w : World} (s : Sat B w L) (h : lookS Φ ∈ L) : Φ w := by
  obtain ⟨l', p⟩ := Pick.of_mem h
  obtain ⟨k, H, k1, k2, a, e, ⟨k', hk, hΦ⟩, hL⟩ := s.perm p.perm
  exact hΦ w fun b o x hx => (H b o x (by rw [e]; unfold join; rw [(hk b o x hx).2])).2
theorem look_and2 {h k : Hp} (a : apart h k) (h1 : lookS Φ h) (h2 : lookS Ψ k) : lookS (fun u => Φ u ∧ Ψ u) (join h k) := by
  obtain ⟨k1, q1, p1⟩ := h1
  obtain ⟨k2, q2, p2⟩ := h2
  refine ⟨join k1 k2, fun b o x hx => ?_, fun w hw => ⟨p1 w fun b o x hx => hw b o x (by unfold join; rw [hx]), p2 w fun b o x hx => hw b o x ?_⟩⟩
  · unfold join at hx ⊢
    cases e1 : k1 b o with
    | some y =>
      rw [e1] at hx; obtain rfl := Option.some.inj hx
      obtain ⟨g1, g2⟩ := q1 b o y e1
      exact ⟨g1, by rw [g2]⟩
    | none =>
      rw [e1] at hx
      obtain ⟨g1, g2⟩ := q2 b o x hx
      refine ⟨g1, ?_⟩
      rcases a b o with e | e | ⟨v, e3, e4⟩
      · rw [e]; exact g2
      · rw [e] at g2; cases g2
      · rw [e3]; rw [e4] at g2; exact g2
  · unfold join
    cases e1 : k1 b o with
    | none => exact hx
    | some y =>
      obtain ⟨⟨v, rfl⟩, g2⟩ := q1 b o y e1
      obtain ⟨⟨u, rfl⟩, g4⟩ := q2 b o x hx
      rcases a b o with e | e | ⟨v', e3, e4⟩
      · rw [e] at g2; cases g2
      · rw [e] at g4; cases g4
      · rw [e3] at g2; rw [e4] at g4
        injection g2 with g2; injection g2 with g2
        injection g4 with g4; injection g4 with g4
        rw [← g2, ← g4]
theorem look_and : Ent (lookS Φ :: lookS Ψ :: L) (lookS (fun u => Φ u ∧ Ψ u) :: L) := fun h s => by
  obtain ⟨k1, k2, a, e, h1, k3, k4, a', e', h2, hL⟩ := s
  subst e'
  have a1 := (apart_join2 a').1 (apart_comm a)
  exact ⟨join k1 k3, k4, (apart_join2 (apart_comm a1.1)).2 ⟨apart_comm a1.2, a'⟩, by rw [e, join_assoc], look_and2 (apart_comm a1.1) h1 h2, hL⟩
theorem look_true : Ent L (lookS (fun _ => True) :: L) := fun h s => ⟨fun _ _ => none, h, fun _ _ => .inl rfl, by funext x y; rfl, ⟨fun _ _ => none, (fun _ _ _ (e : none = some _) => by cases e), fun _ _ => trivial⟩, s⟩
/-- What is owned is given away, to be read for good. -/
theorem look_of_pts {b o : Nat} {vs : List Value} : SE (pts b o vs :: L) (lookS (fun u => ∀ i v, vs[i]? = some v → u.cell? ⟨b, o + i, none⟩ = some v) :: L) := fun B w s => by
  obtain ⟨h, H, k1, k2, a, e, hA, hL⟩ := s
  let f : Option Item → Option Item := fun x => match x with | some (.cell v) => some (.look v) | y => y
  have hin : ∀ i v, vs[i]? = some v → k1 b (o + i) = some (.cell v) := hA
  refine ⟨join (fun b o => f (k1 b o)) k2, ?_, _, k2, ?_, rfl, ⟨fun b' o' => if b' = b ∧ o ≤ o' then (match vs[o' - o]? with | some v => some (.look v) | none => none) else none, ?_, ?_⟩, hL⟩
  · intro b' o' x hx
    unfold join at hx
    simp only [] at hx
    cases e1 : k1 b' o' with
    | none =>
      rw [e1] at hx
      exact H b' o' x (by rw [e]; unfold join; rw [e1]; exact hx)
    | some y =>
      have h1 := H b' o' y (by rw [e]; unfold join; rw [e1])
      rw [e1] at hx
      cases y with
      | cell v => obtain rfl := Option.some.inj hx; exact ⟨.inr trivial, h1.2.1⟩
      | obj v => obtain rfl := Option.some.inj hx; exact h1
      | look v => obtain rfl := Option.some.inj hx; exact h1
  · intro b' o'
    rcases a b' o' with e1 | e1 | ⟨v, e1, e2⟩
    · left; simp only [e1]; rfl
    · exact .inr (.inl e1)
    · right; right; exact ⟨v, by simp only [e1]; rfl, e2⟩
  · intro b' o' x hx
    simp only [] at hx
    by_cases hc : b' = b ∧ o ≤ o'
    · rw [if_pos hc] at hx
      obtain ⟨rfl, hle⟩ := hc
      cases hv : vs[o' - o]? with
      | none => rw [hv] at hx; cases hx
      | some v =>
        rw [hv] at hx
        obtain rfl := Option.some.inj hx
        have := hin _ _ hv
        rw [Nat.add_sub_cancel' hle] at this
        exact ⟨⟨v, rfl⟩, by simp only [this]; rfl⟩
    · rw [if_neg hc] at hx; cases hx
  · intro u hu i v hi
    have := hu b (o + i) (.look v) (by simp [hi])
    exact this
/-! ### Lists that are only read -/
def roS {α : Type} (enc : α → List Value) (sz : Nat) (A : Option Addr) (c : Nat) (xs : List α) : SProp := lookS fun u => Sl enc sz u u.heap.size A xs ∧ xs.length ≤ c
section
variable {α : Type} {enc : α → List Value} {sz : Nat} {A : Option Addr} {c : Nat} {xs : List α}
theorem flat_get {α : Type} {enc : α → List Value} {sz : Nat} (henc : ∀ x, (enc x).length = sz) : ∀ (xs : List α) (i : Nat) (x : α), xs[i]? = some x → ∀ (j : Nat) y, (enc x)[j]? = some y → (xs.flatMap enc)[i * sz + j]? = some y
  | [], i, x, h, _, _, _ => by cases h
  | z :: xs, 0, x, h, j, y, hj => by
    simp at h; subst h
    rw [List.flatMap_cons, Nat.zero_mul, Nat.zero_add, List.getElem?_append_left (List.getElem?_eq_some_iff.1 hj).1]; exact hj
  | z :: xs, i + 1, x, h, j, y, hj => by
    rw [List.flatMap_cons, List.getElem?_append_right (by rw [henc, Nat.add_mul]; omega)]
    have := flat_get henc xs i x (by simpa using h) j y hj
    rw [henc, ← this]; congr 1; rw [Nat.add_mul]; omega
theorem ro_nil {L : List SProp} {A : Option Addr} {c : Nat} : Ent L (roS enc sz A c ([] : List α) :: L) := look_true.trans (Ent.cons (look_mono fun _ _ => ⟨Sl.nil, Nat.zero_le _⟩) Ent.refl)
theorem ro_of_row (hsz : 0 < sz) (henc : ∀ x, (enc x).length = sz) {m : Nat} (hm : xs.length = m) : SE (rowS A m c sz (xs.flatMap enc) :: L) (roS enc sz A c xs :: L) := fun B w s => by
  subst hm
  obtain ⟨h1, h2, h3, h4⟩ := sat_rowS s (List.mem_cons_self ..)
  cases xs with
  | nil => exact ro_nil.sat s.drop
  | cons x xs =>
    obtain ⟨h, H, k1, k2, a, e, ⟨r1, r2, r3, r4⟩, hL⟩ := s
    rcases r4 with ⟨_, r4⟩ | ⟨b, o, spare, rfl, rs, rp⟩
    · simp at r2; omega
    · have s' : Sat B w (pts b o ((x :: xs).flatMap enc) :: L) := ⟨h, H, k1, k2, a, e, (pts_append rp).1, hL⟩
      have s2 := look_of_pts B w s'
      have hlen : (x :: xs).length ≤ 9223372036854775807 := by unfold maxLen at r3; omega
      refine s2.imp fun h => star_head (look_mono fun u hu => ⟨⟨hlen, fun _ => ⟨b, o, rfl, ?_, ?_⟩⟩, r2⟩) 
      · cases hx : enc x with
        | nil => have := henc x; rw [hx] at this; simp at this; omega
        | cons y ys => exact lt_of_cell (hu 0 y (by rw [List.flatMap_cons, hx]; rfl))
      · intro i z hz j v hj
        have := hu _ _ (flat_get henc (x :: xs) i z hz j v hj)
        rw [Nat.add_assoc]; exact this
theorem ro_sl {w : World} (s : Sat B w L) (h : roS enc sz A c xs ∈ L) : Sl enc sz w w.heap.size A xs ∧ xs.length ≤ c := look_sat s h
theorem ro_dup : Ent (roS enc sz A c xs :: L) (roS enc sz A c xs :: roS enc sz A c xs :: L) := look_dup
end
end
end
end Go.Proofs.YtpbkelpokpglaaaGreat
