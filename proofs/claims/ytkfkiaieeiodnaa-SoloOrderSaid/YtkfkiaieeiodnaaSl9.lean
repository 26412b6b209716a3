/- Regions that draw their order, operation by operation: one that looks at no memory may be taken first; one that alone may come up; a group that only reads. No program occurs here. -/
import Derived.Test.YtkfkiaieeiodnaaSl8
namespace Go.Proofs.Ytkfkiaieeiodnaa
open Go Go.RowKit

def NP (Q : Exit → Act → World → Prop) : Exit → Act → World → Prop
  | .panic _, _, _ => False
  | e, a, w => Q e a w
def noCall (o : Oper) : Bool := match o.op with
  | .call c => match c.callee with
    | .builtin _ => true
    | _ => false
  | _ => true
theorem about_none {P : Program} {o : Oper} (h : noCall o = true) (w : World) (ρ : Operand → Value) : o.about P w ρ = none := by
  unfold noCall at h
  unfold Oper.about
  split at h
  · rename_i c hc
    rw [hc]
    simp only
    split at h
    · rename_i b hb
      unfold resolve
      rw [hb]
      rfl
    · cases h
  · rename_i h1
    cases ho : o.op <;> simp only
    exact absurd ho (h1 _)
def pickOps (ops : Array Oper) : List Nat → List Oper
  | [] => []
  | i :: l => (ops[i]?).getD default :: pickOps ops l
/-- h2 waits for h1, perhaps by way of others. -/
def waitsB (ops : Array Oper) : Nat → Nat → Nat → Bool
  | 0, _, _ => false
  | f + 1, j, i => Region.waitsFor .any ops j i || (List.range j).any fun k => Region.waitsFor .any ops j k && waitsB ops f k i
def closedB (ops : Array Oper) (l0 : Array Bool) : Bool :=
  (List.range ops.size).all fun j => !l0.getD j false || match ops[j]? with
    | some o => o.after.all fun e => !Region.binds .any e || l0.getD e.on false
    | none => true
def groupB (ops : Array Oper) (l0 : Array Bool) (H : List Nat) : Bool :=
  closedB ops l0 && (List.range ops.size).all fun j => H.contains j || l0.getD j false || H.all (fun h => waitsB ops 3 j h) || (List.range j).any fun k => !H.contains k && !l0.getD k false && Region.waitsFor .any ops j k
def lexG (ops : Array Oper) : List Nat → Array Bool → Bool
  | [], _ => true
  | i :: l, listed => (Region.ready .any ops listed).contains i && Region.free .any ops listed i && lexG ops l (listed.setIfInBounds i true)
def setAll (l : Array Bool) (H : List Nat) : Array Bool := H.foldl (fun l i => l.setIfInBounds i true) l

section
variable {P : Program} {ops : Array Oper} {C : World → Prop}
def ClosedL (ops : Array Oper) (listed : Array Bool) : Prop := ∀ j oj, ops[j]? = some oj → listed.getD j false = true → ∀ e ∈ oj.after, Region.binds .any e = true → listed.getD e.on false = true
theorem closedB_spec {l0 : Array Bool} (h : closedB ops l0 = true) : ClosedL ops l0 := fun j oj hj hl e he hb => by
  have h1 := List.all_eq_true.1 h j (List.mem_range.2 (Array.getElem?_eq_some_iff.1 hj).1)
  simp only [hl, Bool.not_true, Bool.false_or, hj] at h1
  have h2 := Array.all_eq_true'.1 h1 e he
  simpa [hb] using h2
structure GInv (ops : Array Oper) (H : List Nat) (l0 listed : Array Bool) : Prop where
  size : listed.size = ops.size
  closed : ClosedL ops listed
  out : ∀ j, j ∉ H → listed.getD j false = l0.getD j false
theorem ClosedL.set {listed : Array Bool} {i : Nat} (h : ClosedL ops listed) (hr : i ∈ Region.ready .any ops listed) : ClosedL ops (listed.setIfInBounds i true) := fun j oj hj hl e he hb => by
  obtain ⟨_, o, hoi, hall⟩ := mem_ready.1 hr
  by_cases hij : i = j
  · subst hij
    have : oj = o := Option.some.inj (hj.symm.trans hoi)
    subst this
    exact getD_set_true (hall e he hb)
  · rw [getD_set_ne false hij] at hl
    exact getD_set_true (h j oj hj hl e he hb)
theorem GInv.set {H : List Nat} {l0 listed : Array Bool} {i : Nat} (h : GInv ops H l0 listed) (hi : i ∈ H) (hr : i ∈ Region.ready .any ops listed) : GInv ops H l0 (listed.setIfInBounds i true) :=
  ⟨by simp [h.size], h.closed.set hr, fun j hj => by rw [getD_set_ne false (fun (e : i = j) => hj (by rw [← e]; exact hi))]; exact h.out j hj⟩
theorem waits_spec {j i : Nat} {oj : Oper} (hj : ops[j]? = some oj) (h : Region.waitsFor .any ops j i = true) : ∃ e ∈ oj.after, Region.binds .any e = true ∧ e.on = i := by
  unfold Region.waitsFor at h
  rw [hj] at h
  obtain ⟨e, he, hb⟩ := Array.any_eq_true'.1 h
  simp only [Bool.and_eq_true, beq_iff_eq] at hb
  exact ⟨e, he, hb.1, hb.2⟩
theorem waitsB_spec {listed : Array Bool} (hc : ClosedL ops listed) : ∀ (f j i : Nat), waitsB ops f j i = true → listed.getD j false = true → listed.getD i false = true
  | 0, _, _, h, _ => by cases h
  | f + 1, j, i, h, hl => by
    have step : ∀ k, Region.waitsFor .any ops j k = true → listed.getD k false = true := fun k hk => by
      cases hj : ops[j]? with
      | none => unfold Region.waitsFor at hk; rw [hj] at hk; cases hk
      | some oj =>
        obtain ⟨e, he, hb, ho⟩ := waits_spec hj hk
        rw [← ho]; exact hc j oj hj hl e he hb
    unfold waitsB at h
    simp only [Bool.or_eq_true] at h
    rcases h with h | h
    · exact step i h
    · obtain ⟨k, _, hk⟩ := List.any_eq_true.1 h
      simp only [Bool.and_eq_true] at hk
      exact waitsB_spec hc f k i hk.2 (step k hk.1)
theorem waitsB_ready {listed : Array Bool} (hc : ClosedL ops listed) {f j i : Nat} (h : waitsB ops f j i = true) (hj : j ∈ Region.ready .any ops listed) : listed.getD i false = true := by
  obtain ⟨_, oj, hoj, hall⟩ := mem_ready.1 hj
  have step : ∀ k, Region.waitsFor .any ops j k = true → listed.getD k false = true := fun k hk => by
    obtain ⟨e, he, hb, ho⟩ := waits_spec hoj hk
    rw [← ho]; exact hall e he hb
  cases f with
  | zero => cases h
  | succ f =>
    unfold waitsB at h
    simp only [Bool.or_eq_true] at h
    rcases h with h | h
    · exact step i h
    · obtain ⟨k, _, hk⟩ := List.any_eq_true.1 h
      simp only [Bool.and_eq_true] at hk
      exact waitsB_spec hc f k i hk.2 (step k hk.1)
theorem group_in {H : List Nat} {l0 listed : Array Bool} (hG : groupB ops l0 H = true) (inv : GInv ops H l0 listed) {i : Nat} (hi : i ∈ H) (hun : listed.getD i false = false) {j : Nat} (hj : j ∈ Region.ready .any ops listed) : j ∈ H := by
  obtain ⟨hju, oj, hoj, hall⟩ := mem_ready.1 hj
  refine Classical.byContradiction fun hne => ?_
  have hlt : j < ops.size := (Array.getElem?_eq_some_iff.1 hoj).1
  simp only [groupB, Bool.and_eq_true] at hG
  have h1 := List.all_eq_true.1 hG.2 j (List.mem_range.2 hlt)
  have hl0 : l0.getD j false = false := by rw [← inv.out j hne]; exact getD_both hju
  have hc : H.contains j = false := by simpa using hne
  simp only [hc, hl0, Bool.false_or, Bool.or_eq_true] at h1
  rcases h1 with h1 | h1
  · have := waitsB_ready inv.closed (List.all_eq_true.1 h1 i hi) hj
    rw [hun] at this; cases this
  · obtain ⟨k, _, hk⟩ := List.any_eq_true.1 h1
    simp only [Bool.and_eq_true, Bool.not_eq_true'] at hk
    obtain ⟨e, he, hb, ho⟩ := waits_spec hoj hk.2
    have := hall e he hb
    have hkn : k ∉ H := by simpa using hk.1.1
    rw [ho, inv.out k hkn, hk.1.2] at this; cases this
def hq (P : Program) (ops : Array Oper) (C : World → Prop) (H : List Nat) (L : Array Bool → Act → Prop) : Nat → Array Bool → Act → Prop
  | 0, listed, a => L listed a
  | f + 1, listed, a => Region.ready .any ops listed ≠ [] ∧ ∀ i ∈ Region.ready .any ops listed, i ∈ H ∧ qOp P ops C i (hq P ops C H L f (listed.setIfInBounds i true)) a
theorem anyIn_of_hq {H : List Nat} {Q : Exit → Act → World → Prop} {r : Option Nat} {q : Nat} {L : Array Bool → Act → Prop} (hL : ∀ listed a w, C w → L listed a → wpAnyIn (rf r) 0 P .any ops Q q listed a w) :
    ∀ (f : Nat) (listed : Array Bool) (a : Act) (w : World), C w → hq P ops C H L f listed a → wpAnyIn (rf r) 0 P .any ops Q (f + q) listed a w
  | 0, listed, a, w, hw, h => by rw [Nat.zero_add]; exact hL _ _ _ hw h
  | f + 1, listed, a, w, hw, h => by
    rw [show f + 1 + q = (f + q) + 1 by omega]
    exact ⟨fun h0 => absurd h0 h.1, fun i hi => wpOpIn_quiet hw (fun a' w' hw' h' => anyIn_of_hq hL f _ a' w' hw' h') (h.2 i hi).2⟩
theorem hq_first {H : List Nat} {l0 : Array Bool} {i : Nat} {oi : Oper} {v : Value} {L : Array Bool → Act → Prop} (hi : ops[i]? = some oi) (hsel : ∀ (j : Nat) (o : Oper) cs b, ops[j]? = some o → o.op ≠ .select cs b)
    (hG : groupB ops l0 H = true) (hiH : i ∈ H) (hdone : ∀ listed a, L listed a → ∀ j ∈ H, listed.getD j false = true) :
    ∀ (f : Nat) (listed : Array Bool) (a : Act), GInv ops H l0 listed →
      (∀ j oj, ops[j]? = some oj → j ≠ i → listed.getD j true = false → (∀ e ∈ oj.after, Region.binds .any e = true → e.on ≠ i) → oi.apart ops oj = true) →
      i ∈ Region.ready .any ops listed → YieldsIn P ops C oi v a →
      hq P ops C H L f (listed.setIfInBounds i true) (a.put oi.dst v) → hq P ops C H L (f + 1) listed a := by
  intro f
  induction f with
  | zero =>
    intro listed a inv _ hr hy hX
    have hun := getD_both (mem_ready.1 hr).1
    refine ⟨fun h => (by rw [h] at hr; cases hr), fun j hj => ⟨group_in hG inv hiH hun hj, ?_⟩⟩
    by_cases hji : j = i
    · subst hji; exact hy.qOp hi hX
    · have h1 := hdone _ _ hX j (group_in hG inv hiH hun hj)
      have h2 := (mem_ready.1 (ready_mono hj hji)).1
      rw [getD_both h2] at h1; cases h1
  | succ f ih =>
    intro listed a inv hfree hr hy hX
    have hun := (mem_ready.1 hr).1
    refine ⟨fun h => (by rw [h] at hr; cases hr), fun j hj => ⟨group_in hG inv hiH (getD_both hun) hj, ?_⟩⟩
    by_cases hji : j = i
    · subst hji; exact hy.qOp hi hX
    · have hjH := group_in hG inv hiH (getD_both hun) hj
      have h1 := (hX.2 j (ready_mono hj hji)).2
      obtain ⟨hjun, oj, hoj, hall⟩ := mem_ready.1 hj
      have hnot : ∀ e ∈ oj.after, Region.binds .any e = true → e.on ≠ i := fun e he hb heq => by
        have h1 := hall e he hb
        rw [heq, getD_both hun] at h1
        cases h1
      have h2 := qOp_put hoj (hfree j oj hoj hji hjun hnot) (fun cs b => hsel i oi cs b hi) (fun cs b => hsel j oj cs b hoj) hy h1
      have hfree' : ∀ k ok, ops[k]? = some ok → k ≠ i → (listed.setIfInBounds j true).getD k true = false →
          (∀ e ∈ ok.after, Region.binds .any e = true → e.on ≠ i) → oi.apart ops ok = true := fun k ok hk hki hun hno => by
        refine hfree k ok hk hki ?_ hno
        by_cases hjk : j = k
        · subst hjk; exact hjun
        · rw [getD_set_ne true hjk] at hun; exact hun
      refine qOp_mono (fun a' h3 => ih (listed.setIfInBounds j true) a' (inv.set hjH hj) hfree' (ready_mono hr (Ne.symm hji)) h3.1 ?_) h2
      rw [Array.setIfInBounds_comm _ _ hji]
      exact h3.2
theorem getD_setAll : ∀ (H : List Nat) (l : Array Bool) (j : Nat), j < l.size → (j ∈ H ∨ l.getD j false = true) → (setAll l H).getD j false = true
  | [], l, j, _, h => h.elim (fun h => by cases h) id
  | i :: H, l, j, hj, h => by
    refine getD_setAll H _ j (by simpa using hj) ?_
    by_cases e : i = j
    · subst e; right; simp [hj]
    · rcases h with h | h
      · rcases List.mem_cons.1 h with h | h
        · exact absurd h.symm e
        · exact .inl h
      · right; exact getD_set_true h
theorem hq_lex {H : List Nat} {l0 : Array Bool} {Lq : Act → Prop} (hsel : Region.noSelect ops = true) (hG : groupB ops l0 H = true) :
    ∀ (l : List Nat) (listed : Array Bool) (a : Act), (∀ i ∈ l, i ∈ H) → (∀ i ∈ H, i ∈ l ∨ listed.getD i false = true) → (∀ i ∈ H, i < ops.size) → GInv ops H l0 listed → lexG ops l listed = true →
      wpQuiet P ops C Lq (pickOps ops l) a → hq P ops C H (fun listed' a' => listed' = setAll listed l ∧ Lq a') l.length listed a
  | [], listed, a, _, _, _, _, _, h => ⟨rfl, h⟩
  | i :: l, listed, a, hl, hc, hlt, inv, hX, h => by
    simp only [lexG, Bool.and_eq_true] at hX
    obtain ⟨⟨hr, hf⟩, hX'⟩ := hX
    have hr' : i ∈ Region.ready .any ops listed := by simpa using hr
    obtain ⟨hun, o, hoi, _⟩ := mem_ready.1 hr'
    have hst : qOp P ops C i (wpQuiet P ops C Lq (pickOps ops l)) a := by
      unfold qOp; simp only [hoi]
      simp only [pickOps, hoi, Option.getD_some] at h
      exact h
    obtain ⟨v, hy, hK⟩ := yieldsIn_of_qOp hoi hst
    have hiH := hl i (List.mem_cons_self ..)
    have hIH := hq_lex hsel hG l (listed.setIfInBounds i true) _ (fun j hj => hl j (List.mem_cons_of_mem _ hj)) (fun j hj => by
      rcases hc j hj with h1 | h1
      · rcases List.mem_cons.1 h1 with h2 | h2
        · subst h2; right; simp [inv.size, hlt j hj]
        · exact .inl h2
      · exact .inr (getD_set_true h1)) hlt (inv.set hiH hr') hX' hK
    refine hq_first hoi (Region.noSelect_spec hsel) hG hiH (fun listed' a' hL j hj => ?_) l.length listed a inv (Region.free_spec hoi hf) hr' hy hIH
    rw [hL.1]
    have hjs : j < (listed.setIfInBounds i true).size := by simp [inv.size]; exact hlt j hj
    refine getD_setAll l _ j hjs ?_
    rcases hc j hj with h1 | h1
    · rcases List.mem_cons.1 h1 with h2 | h2
      · subst h2; right; simp [inv.size, hlt j hj]
      · exact .inl h2
    · exact .inr (getD_set_true h1)
end

section
variable {P : Program} {ops : Array Oper} {Q : Exit → Act → World → Prop} {n B : Nat} {W : World} {R R' : RList} {L L' : List SProp} {listed l' : Array Bool} {k i : Nat} {o : Oper} {v : Value}
def AT (P : Program) (ops : Array Oper) (Q : Exit → Act → World → Prop) (n B : Nat) (W : World) (listed : Array Bool) (k : Nat) (R : RList) (L : List SProp) : Prop :=
  ∀ a w, Sta n B W R L a w → wpAnyIn (rf none) 0 P .any ops (NP Q) k listed a w
theorem ct_any {id : Nat} {l : List Oper} (k : Nat) (hm : P.follows .mixedOrders = true) (hk : l.toArray.size = k) (h0 : Array.replicate k false = listed) (h : AT P l.toArray Q n B W listed k R L) : CT none P Q n B W (.region id l.toArray true) R L := fun a w s => by
  have h1 : (Code.region id l.toArray true).wpIn (rf none) 0 P (NP Q) a w := by
    refine wpIn_region_any hm ?_
    rw [hk, h0]
    exact h a _ ((cls_drew s.cls).st s.regs)
  exact wpIn_mono h1 fun e a' w' hq => by cases e <;> first | exact hq | exact hq.elim
theorem at_end (hr : (Region.ready .any ops listed).isEmpty = true) (h : ET Q n B W .normal R L) : AT P ops Q n B W listed 0 R L := fun a w s => ⟨by simpa using hr, h a w s⟩
def takeB (ops : Array Oper) (listed : Array Bool) (i : Nat) : Bool := Region.noSelect ops && Region.free .any ops listed i && (Region.ready .any ops listed).contains i
/-- An operation that looks at no memory is taken first. -/
theorem at_take (i : Nat) (hB : takeB ops listed i = true) (hl : listed.setIfInBounds i true = l') (hi : ops[i]? = some o) (hc : noCall o = true) (h : OP P n o R v) (hg : Wants ops R o.guard true) (hp : Put n R o.dst v R') (K : AT P ops Q n B W l' k R' L) : AT P ops Q n B W listed (k + 1) R L := fun a w s => by
  simp only [takeB, Bool.and_eq_true] at hB
  subst hl
  exact wpAnyIn_take rfl hi hB.1.1 hB.1.2 hB.2 (fun _ _ _ h => h) ⟨.inl ⟨hg.spec s.regs, fun w => h a w s.regs⟩, fun w => about_none hc w _⟩ (K _ _ (s.cls.st (hp a s.regs)))
theorem at_takeskip (i : Nat) (hB : takeB ops listed i = true) (hl : listed.setIfInBounds i true = l') (hi : ops[i]? = some o) (hc : noCall o = true) (hg : Wants ops R o.guard false) (hp : Put n R o.dst undef R') (K : AT P ops Q n B W l' k R' L) : AT P ops Q n B W listed (k + 1) R L := fun a w s => by
  simp only [takeB, Bool.and_eq_true] at hB
  subst hl
  exact wpAnyIn_take rfl hi hB.1.1 hB.1.2 hB.2 (fun _ _ _ h => h) ⟨.inr ⟨hg.spec s.regs, rfl⟩, fun w => about_none hc w _⟩ (K _ _ (s.cls.st (hp a s.regs)))
theorem at_one {a : Act} {w : World} (hr : Region.ready .any ops listed = [i]) (hi : ops[i]? = some o) (h : wpOpIn (rf none) 0 P ops (NP Q) i (wpAnyIn (rf none) 0 P .any ops (NP Q) k (listed.setIfInBounds i true)) a w) : wpAnyIn (rf none) 0 P .any ops (NP Q) (k + 1) listed a w :=
  ⟨fun h0 => (by rw [hr] at h0; cases h0), fun j hj => by
    rw [hr] at hj
    obtain rfl : j = i := by simpa using hj
    exact h⟩
/-- The one operation that may come up. -/
theorem at_q (i : Nat) (hr : Region.ready .any ops listed = [i]) (hl : listed.setIfInBounds i true = l') (hi : ops[i]? = some o) (h : OQ P n B W o R L v) (hg : Wants ops R o.guard true) (hp : Put n R o.dst v R') (K : AT P ops Q n B W l' k R' L) : AT P ops Q n B W listed (k + 1) R L := fun a w s => by
  subst hl
  refine at_one hr hi ?_
  unfold wpOpIn
  simp only [hi]
  rw [if_pos (hg.spec s.regs)]
  exact wpIn_quiet (C := Cls B W L) (K := fun a' => Regs n a' R') s.cls (fun a' w' hw' hr => K a' w' (hw'.st hr)) ⟨v, fun w' hw' => h a w' (hw'.st s.regs), hp a s.regs⟩
theorem at_t {X : Type} {v : X → Value} {L' : X → List SProp} {R' : X → RList} (i : Nat) (hr : Region.ready .any ops listed = [i]) (hl : listed.setIfInBounds i true = l') (hi : ops[i]? = some o) (h : OT P n B W o R L v L') (hg : Wants ops R o.guard true) (hp : ∀ x, Put n R o.dst (v x) (R' x))
    (K : ∀ x, AT P ops Q n B W l' k (R' x) (L' x)) : AT P ops Q n B W listed (k + 1) R L := fun a w s => by
  subst hl
  refine at_one hr hi ?_
  unfold wpOpIn
  simp only [hi]
  rw [if_pos (hg.spec s.regs)]
  exact wpIn_turn (h a w s) fun x w' hw' => K x _ _ (hw'.st (hp x a s.regs))
theorem at_skip (i : Nat) (hr : Region.ready .any ops listed = [i]) (hl : listed.setIfInBounds i true = l') (hi : ops[i]? = some o) (hg : Wants ops R o.guard false) (hp : Put n R o.dst undef R') (K : AT P ops Q n B W l' k R' L) : AT P ops Q n B W listed (k + 1) R L := fun a w s => by
  subst hl
  refine at_one hr hi ?_
  unfold wpOpIn
  simp only [hi]
  rw [if_neg (by rw [hg.spec s.regs]; exact Bool.false_ne_true)]
  exact ⟨fun _ _ => trivial, K _ _ (s.cls.st (hp a s.regs))⟩
def groupOk (ops : Array Oper) (listed : Array Bool) (H : List Nat) : Bool := Region.noSelect ops && groupB ops listed H && lexG ops H listed && H.all (fun i => decide (i < ops.size)) && decide (listed.size = ops.size)
/-- Operations that only read, in whatever order, ahead of all the others. -/
theorem at_group (H : List Nat) (q : Nat) {m : Nat} (hm : H.length + q = m) (hB : groupOk ops listed H = true) (hl : setAll listed H = l') (h : QT P ops n B W (fun R' => AT P ops Q n B W l' q R' L) (pickOps ops H) R L) : AT P ops Q n B W listed m R L := fun a w s => by
  subst hm
  simp only [groupOk, Bool.and_eq_true, decide_eq_true_eq, List.all_eq_true] at hB
  obtain ⟨⟨⟨⟨hsel, hG⟩, hX⟩, hlt⟩, hsz⟩ := hB
  have h1 := h (fun a' => ∀ w', Cls B W L w' → wpAnyIn (rf none) 0 P .any ops (NP Q) q l' a' w') (fun R' hK a' r w' hw' => hK a' w' (hw'.st r)) a s.regs
  have h2 := hq_lex (C := Cls B W L) hsel hG H listed a (fun _ h => h) (fun i hi => .inl hi) hlt ⟨hsz, closedB_spec (by simp only [groupB, Bool.and_eq_true] at hG; exact hG.1), fun _ _ => rfl⟩ hX h1
  refine anyIn_of_hq (q := q) (fun listed' a' w' hw' hL => ?_) _ _ _ _ s.cls h2
  rw [hL.1, hl]; exact hL.2 w' hw'
/-- One of those that may come up now. -/
def ST (P : Program) (ops : Array Oper) (Q : Exit → Act → World → Prop) (n B : Nat) (W : World) (listed : Array Bool) (k : Nat) (R : RList) (L : List SProp) (j : Nat) : Prop :=
  ∀ a w, Sta n B W R L a w → wpOpIn (rf none) 0 P ops (NP Q) j (wpAnyIn (rf none) 0 P .any ops (NP Q) k (listed.setIfInBounds j true)) a w
theorem each_nil {p : Nat → Prop} : ∀ j ∈ ([] : List Nat), p j := fun _ h => by cases h
theorem each_cons {p : Nat → Prop} {i : Nat} {H : List Nat} (h : p i) (t : ∀ j ∈ H, p j) : ∀ j ∈ i :: H, p j := fun j hj => by
  rcases List.mem_cons.1 hj with e | e
  · subst e; exact h
  · exact t j e
theorem at_each {H : List Nat} (hr : Region.ready .any ops listed = H) (hne : H.isEmpty = false) (h : ∀ j ∈ H, ST P ops Q n B W listed k R L j) : AT P ops Q n B W listed (k + 1) R L := fun a w s =>
  ⟨fun h0 => (by rw [← hr, h0] at hne; cases hne), fun j hj => h j (hr ▸ hj) a w s⟩
theorem st_q (hl : listed.setIfInBounds i true = l') (hi : ops[i]? = some o) (h : OQ P n B W o R L v) (hg : Wants ops R o.guard true) (hp : Put n R o.dst v R') (K : AT P ops Q n B W l' k R' L) : ST P ops Q n B W listed k R L i := fun a w s => by
  subst hl
  unfold wpOpIn
  simp only [hi]
  rw [if_pos (hg.spec s.regs)]
  exact wpIn_quiet (C := Cls B W L) (K := fun a' => Regs n a' R') s.cls (fun a' w' hw' hr => K a' w' (hw'.st hr)) ⟨v, fun w' hw' => h a w' (hw'.st s.regs), hp a s.regs⟩
theorem st_t {X : Type} {v : X → Value} {L' : X → List SProp} {R' : X → RList} (hl : listed.setIfInBounds i true = l') (hi : ops[i]? = some o) (h : OT P n B W o R L v L') (hg : Wants ops R o.guard true) (hp : ∀ x, Put n R o.dst (v x) (R' x))
    (K : ∀ x, AT P ops Q n B W l' k (R' x) (L' x)) : ST P ops Q n B W listed k R L i := fun a w s => by
  subst hl
  unfold wpOpIn
  simp only [hi]
  rw [if_pos (hg.spec s.regs)]
  exact wpIn_turn (h a w s) fun x w' hw' => K x _ _ (hw'.st (hp x a s.regs))
theorem st_skip (hl : listed.setIfInBounds i true = l') (hi : ops[i]? = some o) (hg : Wants ops R o.guard false) (hp : Put n R o.dst undef R') (K : AT P ops Q n B W l' k R' L) : ST P ops Q n B W listed k R L i := fun a w s => by
  subst hl
  unfold wpOpIn
  simp only [hi]
  rw [if_neg (by rw [hg.spec s.regs]; exact Bool.false_ne_true)]
  exact ⟨fun _ _ => trivial, K _ _ (s.cls.st (hp a s.regs))⟩
theorem at_ent (e : Ent L L') (h : AT P ops Q n B W listed k R L') : AT P ops Q n B W listed k R L := fun a w s => h a w ⟨s.regs, s.below, s.lo, e.sat s.sat⟩
theorem at_case {R0 : RList} {d : Nat} {p : Prop} [Decidable p] (hm : Turn R (d, Value.bool (decide p)) (d, Value.bool true) R') (hm' : Turn R (d, Value.bool (decide p)) (d, Value.bool false) R0)
    (h1 : p → AT P ops Q n B W listed k R' L) (h2 : ¬p → AT P ops Q n B W listed k R0 L) : AT P ops Q n B W listed k R L := fun a w s => by
  by_cases hp : p
  · exact h1 hp a w ⟨turn_bool hm (by simp [hp]) s.regs, s.below, s.lo, s.sat⟩
  · exact h2 hp a w ⟨turn_bool hm' (by simp [hp]) s.regs, s.below, s.lo, s.sat⟩
theorem at_caseb {R0 : RList} {d : Nat} {b : Bool} (hm : Turn R (d, Value.bool b) (d, Value.bool true) R') (hm' : Turn R (d, Value.bool b) (d, Value.bool false) R0)
    (h1 : b = true → AT P ops Q n B W listed k R' L) (h2 : b = false → AT P ops Q n B W listed k R0 L) : AT P ops Q n B W listed k R L := fun a w s => by
  cases hb : b with
  | true => exact h1 hb a w ⟨turn_bool hm hb s.regs, s.below, s.lo, s.sat⟩
  | false => exact h2 hb a w ⟨turn_bool hm' hb s.regs, s.below, s.lo, s.sat⟩
end
end Go.Proofs.Ytkfkiaieeiodnaa
