/- The configuration that is decoded, held to be read. -/
import Derived.Test.YtkfkiaieeiodnaaSo19
import Derived.Test.YtkfkiaieeiodnaaSl11
import Derived.Test.YtkfkiaieeiodnaaKeep2
namespace Go.Proofs.Ytkfkiaieeiodnaa
open Go Go.RowKit

theorem lt_of_cell {u : World} {b o : Nat} {v : Value} (h : u.cell? ⟨b, o, none⟩ = some v) : b < u.heap.size := by
  rcases Nat.lt_or_ge b u.heap.size with h1 | h1
  · exact h1
  · have e := Array.getElem?_eq_none h1
    unfold World.cell? at h; rw [e] at h; cases h
theorem sl_reads {α : Type} {enc : α → List Value} {sz : Nat} (hsz : 0 < sz) (henc : ∀ x, (enc x).length = sz) {w u : World} {base n : Nat} {e : TypeId} {v : Value} {xs : List α} (h : w.ownsRow base e sz v xs.length (xs.flatMap enc)) (hl : xs.length ≤ 9223372036854775807) (hn : n ≤ base) (hr : Reads n w u) :
    ∃ A cap, v = .slice A xs.length cap ∧ Sl enc sz u u.heap.size A xs := by
  rcases h.2 with ⟨rfl, h0⟩ | ⟨g, cap, cur, rfl, hb, hg, _⟩
  · have : xs = [] := List.eq_nil_of_length_eq_zero h0
    subst this
    exact ⟨none, 0, rfl, Sl.nil⟩
  · have key : ∀ (i : Nat) x, xs[i]? = some x → ∀ (j : Nat) y, (enc x)[j]? = some y → u.cell? ⟨g, i * sz + j, none⟩ = some y := fun i x hx j y hy => by
      have := h.cells (g := g) rfl (i * sz + j) y (flat_get henc xs i x hx j y hy)
      rw [addr_add] at this
      exact hr _ _ _ (Nat.le_trans hn hb) this
    refine ⟨_, _, rfl, hl, fun hne => ⟨g, 0, rfl, ?_, fun i x hx j y hy => by rw [Nat.zero_add]; exact key i x hx j y hy⟩⟩
    cases xs with
    | nil => exact absurd rfl hne
    | cons x xs =>
      cases hy : enc x with
      | nil => have := henc x; rw [hy] at this; simp at this; omega
      | cons y ys => exact lt_of_cell (key 0 x rfl 0 y (by rw [hy]; rfl))
theorem progs_reads {w u : World} {base n : Nat} {v : Value} {vs : List Value} {acc : List (List Ins)} (h : w.ownsRow base 42 1 v acc.length vs) (hp : PrAcc w base vs acc) (hl : acc.length ≤ 9223372036854775807) (hl2 : ∀ p ∈ acc, p.length ≤ 9223372036854775807) (hn : n ≤ base) (hr : Reads n w u) :
    ∃ A cap, v = .slice A acc.length cap ∧ Progs u u.heap.size A acc := by
  rcases h.2 with ⟨rfl, h0⟩ | ⟨g, cap, cur, rfl, hb, hg, _⟩
  · have : acc = [] := List.eq_nil_of_length_eq_zero h0
    subst this
    exact ⟨none, 0, rfl, by simp, fun h => absurd rfl h⟩
  · have key : ∀ (i : Nat) p, acc[i]? = some p → ∃ (A : Option Addr) (c : Nat), u.cell? ⟨g, i, none⟩ = some (.slice A p.length c) ∧ Sl Ins.enc 3 u u.heap.size A p := fun i p hpi => by
      obtain ⟨y, h1, h2⟩ := hp.2 i p hpi
      obtain ⟨A, c, rfl, hs⟩ := sl_reads (by decide) (fun x => by cases x; rfl) h2 (hl2 p (List.mem_of_getElem? hpi)) hn hr
      have := h.cells (g := g) rfl i _ h1
      rw [addr_add] at this
      exact ⟨A, c, hr _ _ _ (Nat.le_trans hn hb) this, hs⟩
    refine ⟨_, _, rfl, hl, fun hne => ⟨g, 0, rfl, ?_, fun i p hpi => by rw [Nat.zero_add]; exact key i p hpi⟩⟩
    cases acc with
    | nil => exact absurd rfl hne
    | cons p acc => obtain ⟨A, c, h1, _⟩ := key 0 p rfl; exact lt_of_cell h1
theorem CfgOwn.reads {w u : World} {base n : Nat} {C : Cfg} {l : CfgAt} (h : CfgOwn w base C l) (hn : n ≤ base) (hr : Reads n w u) : CfgIn u u.heap.size C l := by
  obtain ⟨vs, h1, h2, h3, hl, hl2, hl3⟩ := h
  obtain ⟨A1, c1, e1, h4⟩ := progs_reads h1 h2 (by omega) (fun p hp => by have := hl2 p hp; omega) hn hr
  obtain ⟨A2, c2, e2, h5⟩ := sl_reads (by decide) (fun x => by cases x; rfl) h3 (by omega) hn hr
  injection e1 with e1 _ _
  injection e2 with e2 _ _
  rw [← e1] at h4
  rw [← e2] at h5
  exact ⟨h4, h5⟩
/-- The rows of a configuration, held. -/
def cfgS (C : Cfg) (l : CfgAt) : SProp := heldS fun u => CfgIn u u.heap.size C l
theorem CfgIn.eqs {u : World} {B : Nat} {C C' : Cfg} {l : CfgAt} (h : CfgIn u B C l) (h1 : C.progs = C'.progs) (h2 : C.subs = C'.subs) : CfgIn u B C' l := ⟨h1 ▸ h.1, h2 ▸ h.2⟩
section
variable {P : Program} {n B : Nat} {W : World} {R R' : RList} {L L' M : List SProp} {v u : Value} {x y z : Operand}
  {d : Option Tmp} {ty : TypeId} {ps : String} {af : Array Edge} {g : Option (Nat × Bool)} {T T' : TypeId}
theorem ot_config {xs : List Operand} {ts : Array TypeId} {A : Option Addr} {cap : Nat} {bs : List Nat} (hxs : EvalRs R xs [.slice A bs.length cap]) (hS : ∀ w, Cls B W L w → Sl encByte 1 w w.heap.size A bs) (hwf : BytesWf bs) :
    OT Try.prog n B W ⟨d, .call ⟨.value (.func 19), xs.toArray, ts⟩, ty, ps, af, g⟩ R L (X := CfgAt) (fun l => cfgV (decode bs) l) (fun l => cfgS (decode bs) l :: L) :=
  ot_callH (by kernel_rfl) hxs fun w hw => (config_own A cap bs w (hS w hw) hwf).mono fun _ _ ⟨⟨l, h1, h2⟩, h3⟩ => ⟨⟨l, h1, fun _ hr => h2.reads (Nat.le_succ _) hr⟩, h3⟩
end
def deskC (k : Int) : Cfg := { decode [] with workers := k, levels := 2, tasks := 6, deque := 4, heap := 4, batch := 2 }
end Go.Proofs.Ytkfkiaieeiodnaa
