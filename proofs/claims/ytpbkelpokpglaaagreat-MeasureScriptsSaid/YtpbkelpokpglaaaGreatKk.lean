/- Short names for what the printed proofs say over and over. No program occurs here. -/
import Derived.Test.YtpbkelpokpglaaaGreatKj
import Derived.Test.YtpbkelpokpglaaaGreatKi
set_option linter.all false
namespace Go.Proofs.YtpbkelpokpglaaaGreat
open Go Go.RowKit
section
variable {r : Option Nat} {P : Program} {ops : Array Oper} {Q : Exit → Act → World → Prop} {n B : Nat} {W : World} {R R' R0 : RList} {L L' M : List SProp} {o o2 : Oper} {v u : Value} {rest : List Oper} {d d2 j : Nat} {dd : Option Tmp} {rand : Op} {ty : TypeId} {ps : String} {af : Array Edge} {g : Option (Nat × Bool)} {listed : Array Bool} {k i : Nat} {x y z : Operand} {T T' : TypeId}
/-- A quiet operation that makes a new register. -/
theorem zq (h : OQ P n B W ⟨some d, rand, ty, ps, af, none⟩ R L v) (K : RT r P ops Q n B W rest ((d, v) :: R) L) (hf : freshR n R d = true := by kernel_rfl) : RT r P ops Q n B W (⟨some d, rand, ty, ps, af, none⟩ :: rest) R L := rt_q h wants_none (put_new hf) K
theorem zp (h : OP P n ⟨some d, rand, ty, ps, af, none⟩ R v) (K : RT r P ops Q n B W rest ((d, v) :: R) L) (hf : freshR n R d = true := by kernel_rfl) : RT r P ops Q n B W (⟨some d, rand, ty, ps, af, none⟩ :: rest) R L := rt_q h.q wants_none (put_new hf) K
theorem yq {K : RList → Prop} (h : OQ P n B W ⟨some d, rand, ty, ps, af, none⟩ R L v) (k : QT P ops n B W K rest ((d, v) :: R) L) (hf : freshR n R d = true := by kernel_rfl) : QT P ops n B W K (⟨some d, rand, ty, ps, af, none⟩ :: rest) R L := qt_q h wants_none (put_new hf) k
theorem yp {K : RList → Prop} (h : OP P n ⟨some d, rand, ty, ps, af, none⟩ R v) (k : QT P ops n B W K rest ((d, v) :: R) L) (hf : freshR n R d = true := by kernel_rfl) : QT P ops n B W K (⟨some d, rand, ty, ps, af, none⟩ :: rest) R L := qt_q h.q wants_none (put_new hf) k
/-- The same where a truth lets it run. -/
theorem zw {b c : Bool} (h : OQ P n B W ⟨some d, rand, ty, ps, af, some (j, c)⟩ R L v) (h1 : ops[j]? = some o2) (h2 : o2.dst = some d2) (hm : (d2, Value.bool b) ∈ R) (K : RT r P ops Q n B W rest ((d, v) :: R) L) (hb : (b == c) = true := by rfl) (hf : freshR n R d = true := by kernel_rfl) : RT r P ops Q n B W (⟨some d, rand, ty, ps, af, some (j, c)⟩ :: rest) R L := rt_q h (wants_some h1 h2 hm hb) (put_new hf) K
theorem yw {K : RList → Prop} {b c : Bool} (h : OQ P n B W ⟨some d, rand, ty, ps, af, some (j, c)⟩ R L v) (h1 : ops[j]? = some o2) (h2 : o2.dst = some d2) (hm : (d2, Value.bool b) ∈ R) (k : QT P ops n B W K rest ((d, v) :: R) L) (hb : (b == c) = true := by rfl) (hf : freshR n R d = true := by kernel_rfl) : QT P ops n B W K (⟨some d, rand, ty, ps, af, some (j, c)⟩ :: rest) R L := qt_q h (wants_some h1 h2 hm hb) (put_new hf) k
/-- .. and where it keeps it from running. -/
theorem zk {b c : Bool} (h1 : ops[j]? = some o2) (h2 : o2.dst = some d2) (hm : (d2, Value.bool b) ∈ R) (K : RT r P ops Q n B W rest ((d, undef) :: R) L) (hb : (b == c) = false := by rfl) (hf : freshR n R d = true := by kernel_rfl) : RT r P ops Q n B W (⟨some d, rand, ty, ps, af, some (j, c)⟩ :: rest) R L := rt_skip (wants_some h1 h2 hm hb) (put_new hf) K
theorem yk {K : RList → Prop} {b c : Bool} (h1 : ops[j]? = some o2) (h2 : o2.dst = some d2) (hm : (d2, Value.bool b) ∈ R) (k : QT P ops n B W K rest ((d, undef) :: R) L) (hb : (b == c) = false := by rfl) (hf : freshR n R d = true := by kernel_rfl) : QT P ops n B W K (⟨some d, rand, ty, ps, af, some (j, c)⟩ :: rest) R L := qt_skip (wants_some h1 h2 hm hb) (put_new hf) k
/-- A register is written again. -/
theorem zo (h : OP P n ⟨some d, rand, ty, ps, af, none⟩ R v) (hp : Pick R (d, u) R0) (K : RT r P ops Q n B W rest ((d, v) :: R0) L) (hf : freshR n R0 d = true := by kernel_rfl) : RT r P ops Q n B W (⟨some d, rand, ty, ps, af, none⟩ :: rest) R L := rt_q h.q wants_none (put_over hp hf) K
/-- Operations of a region that draws its order. -/
theorem zt (i : Nat) (hi : ops[i]? = some ⟨some d, rand, ty, ps, af, none⟩) (h : OP P n ⟨some d, rand, ty, ps, af, none⟩ R v) (K : AT P ops Q n B W (listed.setIfInBounds i true) k ((d, v) :: R) L) (hB : takeB ops listed i = true := by kernel_rfl) (hc : noCall ⟨some d, rand, ty, ps, af, none⟩ = true := by rfl) (hf : freshR n R d = true := by kernel_rfl) : AT P ops Q n B W listed (k + 1) R L := at_take i hB rfl hi hc h wants_none (put_new hf) K
theorem za (i : Nat) (hi : ops[i]? = some ⟨some d, rand, ty, ps, af, none⟩) (h : OQ P n B W ⟨some d, rand, ty, ps, af, none⟩ R L v) (K : AT P ops Q n B W (listed.setIfInBounds i true) k ((d, v) :: R) L) (hB : Region.ready .any ops listed = [i] := by kernel_rfl) (hf : freshR n R d = true := by kernel_rfl) : AT P ops Q n B W listed (k + 1) R L := at_q i hB rfl hi h wants_none (put_new hf) K
theorem zs (hi : ops[i]? = some ⟨some d, rand, ty, ps, af, none⟩) (h : OQ P n B W ⟨some d, rand, ty, ps, af, none⟩ R L v) (K : AT P ops Q n B W (listed.setIfInBounds i true) k ((d, v) :: R) L) (hf : freshR n R d = true := by kernel_rfl) : ST P ops Q n B W listed k R L i := st_q rfl hi h wants_none (put_new hf) K
section
variable {X : Type} {V : X → Value} {LX : X → List SProp}
/-- What turns the state: unknowns; none; none and no register. -/
theorem rn (h : OT P n B W ⟨some d, rand, ty, ps, af, none⟩ R L V LX) (K : ∀ x, RT r P ops Q n B W rest ((d, V x) :: R) (LX x)) (hf : freshR n R d = true := by kernel_rfl) : RT r P ops Q n B W (⟨some d, rand, ty, ps, af, none⟩ :: rest) R L := rt_t h wants_none (fun _ => put_new hf) K
theorem ru {V : Unit → Value} (h : OT P n B W ⟨some d, rand, ty, ps, af, none⟩ R L V (fun _ : Unit => L')) (K : RT r P ops Q n B W rest ((d, V ()) :: R) L') (hf : freshR n R d = true := by kernel_rfl) : RT r P ops Q n B W (⟨some d, rand, ty, ps, af, none⟩ :: rest) R L := rt_t h wants_none (fun _ => put_new hf) (fun _ => K)
theorem rz {V : Unit → Value} (h : OT P n B W ⟨none, rand, ty, ps, af, none⟩ R L V (fun _ : Unit => L')) (K : RT r P ops Q n B W rest R L') : RT r P ops Q n B W (⟨none, rand, ty, ps, af, none⟩ :: rest) R L := rt_t h wants_none (fun _ => put_none) (fun _ => K)
theorem tn (i : Nat) (hi : ops[i]? = some ⟨some d, rand, ty, ps, af, none⟩) (h : OT P n B W ⟨some d, rand, ty, ps, af, none⟩ R L V LX) (K : ∀ x, AT P ops Q n B W (listed.setIfInBounds i true) k ((d, V x) :: R) (LX x)) (hr : Region.ready .any ops listed = [i] := by kernel_rfl) (hf : freshR n R d = true := by kernel_rfl) : AT P ops Q n B W listed (k + 1) R L := at_t i hr rfl hi h wants_none (fun _ => put_new hf) K
theorem tu (i : Nat) {V : Unit → Value} (hi : ops[i]? = some ⟨some d, rand, ty, ps, af, none⟩) (h : OT P n B W ⟨some d, rand, ty, ps, af, none⟩ R L V (fun _ : Unit => L')) (K : AT P ops Q n B W (listed.setIfInBounds i true) k ((d, V ()) :: R) L') (hr : Region.ready .any ops listed = [i] := by kernel_rfl) (hf : freshR n R d = true := by kernel_rfl) : AT P ops Q n B W listed (k + 1) R L := at_t i hr rfl hi h wants_none (fun _ => put_new hf) (fun _ => K)
theorem tz (i : Nat) {V : Unit → Value} (hi : ops[i]? = some ⟨none, rand, ty, ps, af, none⟩) (h : OT P n B W ⟨none, rand, ty, ps, af, none⟩ R L V (fun _ : Unit => L')) (K : AT P ops Q n B W (listed.setIfInBounds i true) k R L') (hr : Region.ready .any ops listed = [i] := by kernel_rfl) : AT P ops Q n B W listed (k + 1) R L := at_t i hr rfl hi h wants_none (fun _ => put_none) (fun _ => K)
theorem un (hi : ops[i]? = some ⟨some d, rand, ty, ps, af, none⟩) (h : OT P n B W ⟨some d, rand, ty, ps, af, none⟩ R L V LX) (K : ∀ x, AT P ops Q n B W (listed.setIfInBounds i true) k ((d, V x) :: R) (LX x)) (hf : freshR n R d = true := by kernel_rfl) : ST P ops Q n B W listed k R L i := st_t rfl hi h wants_none (fun _ => put_new hf) K
theorem uu {V : Unit → Value} (hi : ops[i]? = some ⟨some d, rand, ty, ps, af, none⟩) (h : OT P n B W ⟨some d, rand, ty, ps, af, none⟩ R L V (fun _ : Unit => L')) (K : AT P ops Q n B W (listed.setIfInBounds i true) k ((d, V ()) :: R) L') (hf : freshR n R d = true := by kernel_rfl) : ST P ops Q n B W listed k R L i := st_t rfl hi h wants_none (fun _ => put_new hf) (fun _ => K)
theorem uz {V : Unit → Value} (hi : ops[i]? = some ⟨none, rand, ty, ps, af, none⟩) (h : OT P n B W ⟨none, rand, ty, ps, af, none⟩ R L V (fun _ : Unit => L')) (K : AT P ops Q n B W (listed.setIfInBounds i true) k R L') : ST P ops Q n B W listed k R L i := st_t rfl hi h wants_none (fun _ => put_none) (fun _ => K)
end
theorem ca (k : Nat) {id : Nat} {l : List Oper} (h : AT P l.toArray Q n B W (Array.replicate k false) k R L) (hm : P.follows .mixedOrders = true := by kernel_rfl) (hk : l.toArray.size = k := by rfl) : CT none P Q n B W (.region id l.toArray true) R L := ct_any k hm hk rfl h
theorem zz (h : ET Q n B W .normal R L) (hr : (Region.ready .any ops listed).isEmpty = true := by kernel_rfl) : AT P ops Q n B W listed 0 R L := at_end hr h
theorem x2 (i j : Nat) (h1 : ST P ops Q n B W listed k R L i) (h2 : ST P ops Q n B W listed k R L j) (hr : Region.ready .any ops listed = [i, j] := by kernel_rfl) : AT P ops Q n B W listed (k + 1) R L := at_each hr rfl (each_cons h1 (each_cons h2 each_nil))
theorem x3 (i j m : Nat) (h1 : ST P ops Q n B W listed k R L i) (h2 : ST P ops Q n B W listed k R L j) (h3 : ST P ops Q n B W listed k R L m) (hr : Region.ready .any ops listed = [i, j, m] := by kernel_rfl) : AT P ops Q n B W listed (k + 1) R L := at_each hr rfl (each_cons h1 (each_cons h2 (each_cons h3 each_nil)))
/-- The ways through the orders meet. -/
theorem at_key {X : (Array Bool → Nat → RList → List SProp → Prop) → Prop} (c : X (AT P ops Q n B W)) (h : X (AT P ops Q n B W) → AT P ops Q n B W listed k R L) : AT P ops Q n B W listed k R L := h c
theorem at_use {l2 : Array Bool} (h : AT P ops Q n B W l2 k R' L') (hR : Less R R') (hL : Ent L L') (hl : listed = l2 := by kernel_rfl) : AT P ops Q n B W listed k R L := fun a w s => by
  subst hl; exact h a w ⟨hR.regs s.regs, s.below, s.lo, hL.sat s.sat⟩
theorem ct_cutY {S G : Type} (Inv : S → Prop) (Rx : S → G → RList) (Lx : S → G → List SProp) {cd : Code}
    (h : CT r P (Exit.then (fun a w => ∃ y g, Inv y ∧ Sta n B W (Rx y g) (Lx y g) a w) Q) n B W cd R L) (k : ∀ y g, Inv y → ∀ a w, Sta n B W (Rx y g) (Lx y g) a w → Q .normal a w) : CT r P Q n B W cd R L := fun a w s =>
  wpIn_mono (h a w s) fun e a' w' hq => by
    cases e with
    | normal => obtain ⟨y, g, hi, hs⟩ := hq; exact k y g hi a' w' hs
    | exit id => exact hq
    | goto l => exact hq
    | ret => exact hq
    | panic ch => exact hq
    | outgrown => exact hq
theorem ct_cutEY (D : Act → World → Prop) {c : Code} (h : CT r P (Exit.then D Q) n B W c R L) (k : ∀ a w, D a w → Q .normal a w) : CT r P Q n B W c R L := fun a w s =>
  wpIn_mono (h a w s) fun e a' w' hq => by
    cases e with
    | normal => exact k a' w' hq
    | exit id => exact hq
    | goto l => exact hq
    | ret => exact hq
    | panic ch => exact hq
    | outgrown => exact hq
/-! Operations -/
theorem fd {b o : Nat} (k o' : Nat) {f : Nat} (hx : EvalR R x (.pointer (some ⟨b, o, none⟩))) (hf : fieldOff P T f = some k := by kernel_rfl) (ho : o + k = o' := by first | rfl | omega) : OP P n ⟨dd, .fieldAddr T x f, ty, ps, af, g⟩ R (.pointer (some ⟨b, o', none⟩)) := op_field hx hf ho
theorem ld {b o' : Nat} {vs : List Value} (o i : Nat) (hx : EvalR R x (.pointer (some ⟨b, o', none⟩))) (hL : pts b o vs ∈ L) (hi : vs[i]? = some v) (ho : o + i = o' := by first | rfl | omega) (hT : aggSize P T = some none := by kernel_rfl) : OQ P n B W ⟨dd, .load T x, ty, ps, af, g⟩ R L v := oq_load hx hL ho hi hT
theorem lda {b : Nat} {vs : List Value} (o : Nat) (hx : EvalR R x (.pointer (some ⟨b, o, none⟩))) (hL : pts b o vs ∈ L) (hT : aggSize P T = some (some vs.length) := by kernel_rfl) : OQ P n B W ⟨dd, .load T x, ty, ps, af, g⟩ R L (.agg vs.toArray) := oq_loadA (i := 0) (k := vs.length) (us := vs) hx hL rfl hT rfl (by simp)
def WAt (i : Nat) (vs : List Value) (u : Value) (ws : List Value) : Prop := i + 1 ≤ vs.length ∧ vs.take i ++ [u] ++ vs.drop (i + 1) = ws
theorem st1 {b o' i : Nat} {vs ws : List Value} (o : Nat) (hw : WAt i vs v ws) (hx : EvalR R x (.pointer (some ⟨b, o', none⟩))) (hy : EvalR R y v) (hL : Turn L (pts b o vs) (pts b o ws) L') (ho : o + i = o' := by first | rfl | omega) (hT : P.cellsOf T = 1 := by kernel_rfl) (hv : v.cells.toList = [v] := by rfl) (ha : scalar v = true := by rfl) : OT P n B W ⟨none, .store T x y, ty, ps, af, g⟩ R L (X := Unit) (fun _ => undef) (fun _ => L') :=
  ot_store (i := i) (k := 1) (us := [v]) hx hy hL ho hT rfl (by decide) hv (by simpa using ha) hw.1 hw.2
theorem sta {b : Nat} {vs us : List Value} (o : Nat) (hx : EvalR R x (.pointer (some ⟨b, o, none⟩))) (hy : EvalR R y (.agg us.toArray)) (hL : Turn L (pts b o vs) (pts b o us) L') (hT : P.cellsOf T = us.length := by kernel_rfl) (hk : us.length = vs.length := by rfl) (h0 : 0 < us.length := by exact Nat.le_of_ble_eq_true rfl) (ha : us.all scalar = true := by rfl) : OT P n B W ⟨none, .store T x y, ty, ps, af, g⟩ R L (X := Unit) (fun _ => undef) (fun _ => L') :=
  ot_store (i := 0) (k := us.length) (us := us) hx hy hL rfl hT rfl h0 (by simp [Value.cells]) ha (by omega) (by simp [hk])
theorem bz (hr : ∀ w, (Instr.build T (#[] : Array (Nat × Value))).run P w = .ok (.agg #[.bool false, .int .i64 0, .int .i64 0]) w := by intro _; kernel_rfl) : OP P n ⟨dd, .build T #[], ty, ps, af, g⟩ R (.agg #[.bool false, .int .i64 0, .int .i64 0]) := op_build (pl := []) .nil hr
theorem al (us : List Value) (hz : zeroOf P T = some (.agg us.toArray) := by kernel_rfl) : OT P n B W ⟨dd, .alloc T, ty, ps, af, g⟩ R L (X := Nat) (fun b => .pointer (some ⟨b, 0, none⟩)) (fun b => pts b 0 us :: L) := ot_alloc hz (by simp [Value.cells])
theorem cq {f : FuncId} {xs : List Operand} {ts : Array TypeId} {vs : List Value} {N : List SProp} (hxs : EvalRs R xs vs) (h : Fn_ P f vs.toArray B W N (X := Unit) (fun _ => v) (fun _ => N)) (hL : Picks L N M) (hc : callB P f = true := by kernel_rfl) : OQ P n B W ⟨dd, .call ⟨.value (.func f), xs.toArray, ts⟩, ty, ps, af, g⟩ R L v := oq_call0 hc hxs (pure_of_fn h hL)
theorem co {f : FuncId} {xs : List Operand} {ts : Array TypeId} {vs : List Value} {X : Type} {v : X → Value} {N : List SProp} {N' : X → List SProp} (hxs : EvalRs R xs vs) (h : Fn_ P f vs.toArray B W N v N') (hL : Picks L N M) (hc : callB P f = true := by kernel_rfl) : OT P n B W ⟨dd, .call ⟨.value (.func f), xs.toArray, ts⟩, ty, ps, af, g⟩ R L v (fun x => N' x ++ M) := ot_call0 hc hxs h hL
/-! Ways out -/
theorem fa {fn : Func} {v : Unit → Value} {LX : Unit → List SProp} {t b o : Nat} {us : List Value} {F : SProp} (h : (t, Value.pointer (some ⟨b, o, none⟩)) ∈ R) (hL : pts b o us ∈ L) (hE : Ent L (LX () ++ [F])) (hfn : fn.results.toList = [.cell t T] := by rfl) (hT : aggSize P T = some (some us.length) := by kernel_rfl) (hv : Value.agg us.toArray = v () := by rfl) :
    ET (bodyPost P fn fun e w' => ∃ x, e = .returned (v x) ∧ Cls B W (LX x ++ [F]) w') n B W .ret R L := et_fn () hfn (.cellA (m := us.length) (ws := us) h hL hT (by simp) rfl .nil) hv hE
theorem fab {fn : Func} {X : Type} {v : X → Value} {LX : X → List SProp} {t t2 b o : Nat} {us : List Value} {F : SProp} (x : X) (h : (t, Value.pointer (some ⟨b, o, none⟩)) ∈ R) (hL : pts b o us ∈ L) (h2 : (t2, u) ∈ R) (hE : Ent L (LX x ++ [F])) (hfn : fn.results.toList = [.cell t T, .tmp t2] := by rfl) (hT : aggSize P T = some (some us.length) := by kernel_rfl) (hv : Value.tuple #[.agg us.toArray, u] = v x := by rfl) :
    ET (bodyPost P fn fun e w' => ∃ x, e = .returned (v x) ∧ Cls B W (LX x ++ [F]) w') n B W .ret R L := et_fn (vs := [.agg us.toArray, u]) x hfn (.cellA (m := us.length) (ws := us) h hL hT (by simp) rfl (.cons h2 .nil)) hv hE
theorem pkE {N : List SProp} {e' : Exit} (h : Picks L N M) (K : ET Q n B W e' R (N ++ M)) : ET Q n B W e' R L := tE (Ent.picks h) K
theorem pkA {N : List SProp} (h : Picks L N M) (K : AT P ops Q n B W listed k R (N ++ M)) : AT P ops Q n B W listed k R L := aE (Ent.picks h) K
theorem pkR {N : List SProp} (h : Picks L N M) (K : RT r P ops Q n B W rest R (N ++ M)) : RT r P ops Q n B W rest R L := rE (Ent.picks h) K
/-- A frame's, a record's parts are put together. -/
theorem sf {b o c : Nat} {A : Option Addr} (f : FrV) {e' : Exit} (K : ET Q n B W e' R (frS b o f :: L)) : ET Q n B W e' R (pts b o (frC f A c) :: roS encInt 1 A c f.l :: L) := tE (it_shut rfl) K
theorem sr {b o c : Nat} {A : Option Addr} (f : RecV) {vs : List Value} {e' : Exit} (K : ET Q n B W e' R (itS recC RecV.kids b o f :: L)) (hv : vs = recC f A c := by simp [recC]) : ET Q n B W e' R (pts b o vs :: roS encInt 1 A c f.kids :: L) := tE (it_shut hv) K
end
theorem ip {α : Type} {c : Prop} [Decidable c] {a b o : α} (h : c) (hs : (if c then a else b) = o) : a = o := (if_pos h).symm.trans hs
theorem im {α : Type} {c : Prop} [Decidable c] {a b o : α} (h : ¬ c) (hs : (if c then a else b) = o) : b = o := (if_neg h).symm.trans hs
/-- The cells of a configuration's head. -/
abbrev cP (b : Nat) (c : Cfg) (l : CfgAt) : SProp := pts b 0 [.int .i64 c.workers, .int .i64 c.levels, .int .i64 c.classes, .int .i64 c.tasks, .int .i64 c.deque, .int .i64 c.heap, .int .i64 c.batch, .int .i64 c.age, .int .i64 c.patience, .slice l.pa c.progs.length l.pc, .slice l.sa c.subs.length l.sc]
section
variable {L L' L1 L2 L3 : List SProp}
theorem d1 {A : SProp} (h : Ent L (A :: L')) : Ent L L' := h.trans Ent.drop
theorem d2 {A A' : SProp} (h : Ent L (A :: A' :: L')) : Ent L L' := d1 (d1 h)
theorem d3 {A A' A2 : SProp} (h : Ent L (A :: A' :: A2 :: L')) : Ent L L' := d1 (d2 h)
theorem d4 {A A' A2 A3 : SProp} (h : Ent L (A :: A' :: A2 :: A3 :: L')) : Ent L L' := d1 (d3 h)
theorem lc {R R' : RList} {t : Nat} {v : Value} (h : (t, v) ∈ R) (k : Less R R') : Less R ((t, v) :: R') := .cons h rfl k
end
section
variable {R : RList} {v : Value} {t : Nat} {a0 a1 a2 a3 a4 a5 a6 a7 a8 a9 a10 a11 a12 a13 a14 a15 a16 a17 a18 a19 : Nat × Value}
theorem m0 : EvalR ((t, v) :: R) (.tmp t) v := .tmp e0
theorem m1 : EvalR (a0 :: (t, v) :: R) (.tmp t) v := .tmp e1
theorem m2 : EvalR (a0 :: a1 :: (t, v) :: R) (.tmp t) v := .tmp e2
theorem m3 : EvalR (a0 :: a1 :: a2 :: (t, v) :: R) (.tmp t) v := .tmp e3
theorem m4 : EvalR (a0 :: a1 :: a2 :: a3 :: (t, v) :: R) (.tmp t) v := .tmp e4
theorem m5 : EvalR (a0 :: a1 :: a2 :: a3 :: a4 :: (t, v) :: R) (.tmp t) v := .tmp e5
theorem m6 : EvalR (a0 :: a1 :: a2 :: a3 :: a4 :: a5 :: (t, v) :: R) (.tmp t) v := .tmp e6
theorem m7 : EvalR (a0 :: a1 :: a2 :: a3 :: a4 :: a5 :: a6 :: (t, v) :: R) (.tmp t) v := .tmp e7
theorem m8 : EvalR (a0 :: a1 :: a2 :: a3 :: a4 :: a5 :: a6 :: a7 :: (t, v) :: R) (.tmp t) v := .tmp e8
theorem m9 : EvalR (a0 :: a1 :: a2 :: a3 :: a4 :: a5 :: a6 :: a7 :: a8 :: (t, v) :: R) (.tmp t) v := .tmp e9
theorem m10 : EvalR (a0 :: a1 :: a2 :: a3 :: a4 :: a5 :: a6 :: a7 :: a8 :: a9 :: (t, v) :: R) (.tmp t) v := .tmp e10
theorem m11 : EvalR (a0 :: a1 :: a2 :: a3 :: a4 :: a5 :: a6 :: a7 :: a8 :: a9 :: a10 :: (t, v) :: R) (.tmp t) v := .tmp e11
theorem m12 : EvalR (a0 :: a1 :: a2 :: a3 :: a4 :: a5 :: a6 :: a7 :: a8 :: a9 :: a10 :: a11 :: (t, v) :: R) (.tmp t) v := .tmp e12
theorem m13 : EvalR (a0 :: a1 :: a2 :: a3 :: a4 :: a5 :: a6 :: a7 :: a8 :: a9 :: a10 :: a11 :: a12 :: (t, v) :: R) (.tmp t) v := .tmp e13
theorem m14 : EvalR (a0 :: a1 :: a2 :: a3 :: a4 :: a5 :: a6 :: a7 :: a8 :: a9 :: a10 :: a11 :: a12 :: a13 :: (t, v) :: R) (.tmp t) v := .tmp e14
theorem m15 : EvalR (a0 :: a1 :: a2 :: a3 :: a4 :: a5 :: a6 :: a7 :: a8 :: a9 :: a10 :: a11 :: a12 :: a13 :: a14 :: (t, v) :: R) (.tmp t) v := .tmp e15
theorem m16 : EvalR (a0 :: a1 :: a2 :: a3 :: a4 :: a5 :: a6 :: a7 :: a8 :: a9 :: a10 :: a11 :: a12 :: a13 :: a14 :: a15 :: (t, v) :: R) (.tmp t) v := .tmp e16
theorem m17 : EvalR (a0 :: a1 :: a2 :: a3 :: a4 :: a5 :: a6 :: a7 :: a8 :: a9 :: a10 :: a11 :: a12 :: a13 :: a14 :: a15 :: a16 :: (t, v) :: R) (.tmp t) v := .tmp e17
theorem m18 : EvalR (a0 :: a1 :: a2 :: a3 :: a4 :: a5 :: a6 :: a7 :: a8 :: a9 :: a10 :: a11 :: a12 :: a13 :: a14 :: a15 :: a16 :: a17 :: (t, v) :: R) (.tmp t) v := .tmp e18
theorem m19 : EvalR (a0 :: a1 :: a2 :: a3 :: a4 :: a5 :: a6 :: a7 :: a8 :: a9 :: a10 :: a11 :: a12 :: a13 :: a14 :: a15 :: a16 :: a17 :: a18 :: (t, v) :: R) (.tmp t) v := .tmp e19
end
theorem mU {R : RList} {v : Value} {x : Operand} {a0 : Nat × Value} {a1 : Nat × Value} {a2 : Nat × Value} {a3 : Nat × Value} {a4 : Nat × Value} {a5 : Nat × Value} {a6 : Nat × Value} {a7 : Nat × Value} {a8 : Nat × Value} {a9 : Nat × Value} {a10 : Nat × Value} {a11 : Nat × Value} {a12 : Nat × Value} {a13 : Nat × Value} {a14 : Nat × Value} {a15 : Nat × Value} {a16 : Nat × Value} {a17 : Nat × Value} {a18 : Nat × Value} {a19 : Nat × Value} (h : EvalR R x v) : EvalR (a0 :: a1 :: a2 :: a3 :: a4 :: a5 :: a6 :: a7 :: a8 :: a9 :: a10 :: a11 :: a12 :: a13 :: a14 :: a15 :: a16 :: a17 :: a18 :: a19 :: R) x v := by cases h with
  | tmp h => exact .tmp (eU h)
  | const => exact .const
  | func => exact .func
theorem bS : (∀ p : Prop, (p ∧ True) = p) ∧ (∀ p : Prop, (True ∧ p) = p) ∧ (∀ p : Prop, (p ∧ False) = False) ∧ (∀ p : Prop, (False ∧ p) = False) ∧ (∀ p : Prop, (p ∨ True) = True) ∧ (∀ p : Prop, (True ∨ p) = True) ∧ (∀ p : Prop, (p ∨ False) = p) ∧ (∀ p : Prop, (False ∨ p) = p) ∧ ((¬ True) = False) ∧ ((¬ False) = True) ∧ (∀ h : Decidable True, @decide True h = true) ∧ (∀ h : Decidable False, @decide False h = false) ∧ ((false = true) = False) ∧ (∀ (p : Prop) (h : Decidable p), (@decide p h = true) = p) := by
  refine ⟨?_, ?_, ?_, ?_, ?_, ?_, ?_, ?_, ?_, ?_, ?_, ?_, ?_, ?_⟩ <;> intros <;> simp
theorem fe1 {P : Program} {B : Nat} {W : World} {L : List SProp} {f : FuncId} {fn : Func} {c : Code} {a0 : Value} {X : Type} {v : X → Value} {LX : X → List SProp} (hf : P.funcs[f]? = some fn) (m : Nat) (hb : fn.body = some c) (h : ∀ F, CT none P (bodyPost P fn fun e w' => ∃ x, e = .returned (v x) ∧ Cls B W (LX x ++ [F]) w') m B W c [(0, a0)] (L ++ [F])) (hn : fn.ntmps = m := by rfl) (hle : Nat.ble 1 m = true := by rfl) : Fn_ P f #[a0] B W L v LX := fn_enter hf hb hn (Nat.le_of_ble_eq_true hle) rfl h
theorem fe2 {P : Program} {B : Nat} {W : World} {L : List SProp} {f : FuncId} {fn : Func} {c : Code} {a0 : Value} {a1 : Value} {X : Type} {v : X → Value} {LX : X → List SProp} (hf : P.funcs[f]? = some fn) (m : Nat) (hb : fn.body = some c) (h : ∀ F, CT none P (bodyPost P fn fun e w' => ∃ x, e = .returned (v x) ∧ Cls B W (LX x ++ [F]) w') m B W c [(0, a0), (1, a1)] (L ++ [F])) (hn : fn.ntmps = m := by rfl) (hle : Nat.ble 2 m = true := by rfl) : Fn_ P f #[a0, a1] B W L v LX := fn_enter hf hb hn (Nat.le_of_ble_eq_true hle) rfl h
theorem fe3 {P : Program} {B : Nat} {W : World} {L : List SProp} {f : FuncId} {fn : Func} {c : Code} {a0 : Value} {a1 : Value} {a2 : Value} {X : Type} {v : X → Value} {LX : X → List SProp} (hf : P.funcs[f]? = some fn) (m : Nat) (hb : fn.body = some c) (h : ∀ F, CT none P (bodyPost P fn fun e w' => ∃ x, e = .returned (v x) ∧ Cls B W (LX x ++ [F]) w') m B W c [(0, a0), (1, a1), (2, a2)] (L ++ [F])) (hn : fn.ntmps = m := by rfl) (hle : Nat.ble 3 m = true := by rfl) : Fn_ P f #[a0, a1, a2] B W L v LX := fn_enter hf hb hn (Nat.le_of_ble_eq_true hle) rfl h
theorem fe4 {P : Program} {B : Nat} {W : World} {L : List SProp} {f : FuncId} {fn : Func} {c : Code} {a0 : Value} {a1 : Value} {a2 : Value} {a3 : Value} {X : Type} {v : X → Value} {LX : X → List SProp} (hf : P.funcs[f]? = some fn) (m : Nat) (hb : fn.body = some c) (h : ∀ F, CT none P (bodyPost P fn fun e w' => ∃ x, e = .returned (v x) ∧ Cls B W (LX x ++ [F]) w') m B W c [(0, a0), (1, a1), (2, a2), (3, a3)] (L ++ [F])) (hn : fn.ntmps = m := by rfl) (hle : Nat.ble 4 m = true := by rfl) : Fn_ P f #[a0, a1, a2, a3] B W L v LX := fn_enter hf hb hn (Nat.le_of_ble_eq_true hle) rfl h
theorem fe5 {P : Program} {B : Nat} {W : World} {L : List SProp} {f : FuncId} {fn : Func} {c : Code} {a0 : Value} {a1 : Value} {a2 : Value} {a3 : Value} {a4 : Value} {X : Type} {v : X → Value} {LX : X → List SProp} (hf : P.funcs[f]? = some fn) (m : Nat) (hb : fn.body = some c) (h : ∀ F, CT none P (bodyPost P fn fun e w' => ∃ x, e = .returned (v x) ∧ Cls B W (LX x ++ [F]) w') m B W c [(0, a0), (1, a1), (2, a2), (3, a3), (4, a4)] (L ++ [F])) (hn : fn.ntmps = m := by rfl) (hle : Nat.ble 5 m = true := by rfl) : Fn_ P f #[a0, a1, a2, a3, a4] B W L v LX := fn_enter hf hb hn (Nat.le_of_ble_eq_true hle) rfl h
theorem fe6 {P : Program} {B : Nat} {W : World} {L : List SProp} {f : FuncId} {fn : Func} {c : Code} {a0 : Value} {a1 : Value} {a2 : Value} {a3 : Value} {a4 : Value} {a5 : Value} {X : Type} {v : X → Value} {LX : X → List SProp} (hf : P.funcs[f]? = some fn) (m : Nat) (hb : fn.body = some c) (h : ∀ F, CT none P (bodyPost P fn fun e w' => ∃ x, e = .returned (v x) ∧ Cls B W (LX x ++ [F]) w') m B W c [(0, a0), (1, a1), (2, a2), (3, a3), (4, a4), (5, a5)] (L ++ [F])) (hn : fn.ntmps = m := by rfl) (hle : Nat.ble 6 m = true := by rfl) : Fn_ P f #[a0, a1, a2, a3, a4, a5] B W L v LX := fn_enter hf hb hn (Nat.le_of_ble_eq_true hle) rfl h
section
variable {x : SProp} {L L2 xs : List SProp} {a0 a1 a2 a3 a4 a5 a6 a7 a8 a9 a10 a11 a12 a13 a14 a15 a16 a17 a18 a19 : SProp}
theorem p0 (h : Picks (L) xs L2) : Picks (x :: L) (x :: xs) L2 := .cons pick0 h
theorem p1 (h : Picks (a0 :: L) xs L2) : Picks (a0 :: x :: L) (x :: xs) L2 := .cons pick1 h
theorem p2 (h : Picks (a0 :: a1 :: L) xs L2) : Picks (a0 :: a1 :: x :: L) (x :: xs) L2 := .cons pick2 h
theorem p3 (h : Picks (a0 :: a1 :: a2 :: L) xs L2) : Picks (a0 :: a1 :: a2 :: x :: L) (x :: xs) L2 := .cons pick3 h
theorem p4 (h : Picks (a0 :: a1 :: a2 :: a3 :: L) xs L2) : Picks (a0 :: a1 :: a2 :: a3 :: x :: L) (x :: xs) L2 := .cons pick4 h
theorem p5 (h : Picks (a0 :: a1 :: a2 :: a3 :: a4 :: L) xs L2) : Picks (a0 :: a1 :: a2 :: a3 :: a4 :: x :: L) (x :: xs) L2 := .cons pick5 h
theorem p6 (h : Picks (a0 :: a1 :: a2 :: a3 :: a4 :: a5 :: L) xs L2) : Picks (a0 :: a1 :: a2 :: a3 :: a4 :: a5 :: x :: L) (x :: xs) L2 := .cons pick6 h
theorem p7 (h : Picks (a0 :: a1 :: a2 :: a3 :: a4 :: a5 :: a6 :: L) xs L2) : Picks (a0 :: a1 :: a2 :: a3 :: a4 :: a5 :: a6 :: x :: L) (x :: xs) L2 := .cons pick7 h
theorem p8 (h : Picks (a0 :: a1 :: a2 :: a3 :: a4 :: a5 :: a6 :: a7 :: L) xs L2) : Picks (a0 :: a1 :: a2 :: a3 :: a4 :: a5 :: a6 :: a7 :: x :: L) (x :: xs) L2 := .cons pick8 h
theorem p9 (h : Picks (a0 :: a1 :: a2 :: a3 :: a4 :: a5 :: a6 :: a7 :: a8 :: L) xs L2) : Picks (a0 :: a1 :: a2 :: a3 :: a4 :: a5 :: a6 :: a7 :: a8 :: x :: L) (x :: xs) L2 := .cons pick9 h
theorem p10 (h : Picks (a0 :: a1 :: a2 :: a3 :: a4 :: a5 :: a6 :: a7 :: a8 :: a9 :: L) xs L2) : Picks (a0 :: a1 :: a2 :: a3 :: a4 :: a5 :: a6 :: a7 :: a8 :: a9 :: x :: L) (x :: xs) L2 := .cons pick10 h
theorem p11 (h : Picks (a0 :: a1 :: a2 :: a3 :: a4 :: a5 :: a6 :: a7 :: a8 :: a9 :: a10 :: L) xs L2) : Picks (a0 :: a1 :: a2 :: a3 :: a4 :: a5 :: a6 :: a7 :: a8 :: a9 :: a10 :: x :: L) (x :: xs) L2 := .cons pick11 h
theorem p14 (h : Picks (a0 :: a1 :: a2 :: a3 :: a4 :: a5 :: a6 :: a7 :: a8 :: a9 :: a10 :: a11 :: a12 :: a13 :: L) xs L2) : Picks (a0 :: a1 :: a2 :: a3 :: a4 :: a5 :: a6 :: a7 :: a8 :: a9 :: a10 :: a11 :: a12 :: a13 :: x :: L) (x :: xs) L2 := .cons pick14 h
theorem p15 (h : Picks (a0 :: a1 :: a2 :: a3 :: a4 :: a5 :: a6 :: a7 :: a8 :: a9 :: a10 :: a11 :: a12 :: a13 :: a14 :: L) xs L2) : Picks (a0 :: a1 :: a2 :: a3 :: a4 :: a5 :: a6 :: a7 :: a8 :: a9 :: a10 :: a11 :: a12 :: a13 :: a14 :: x :: L) (x :: xs) L2 := .cons pick15 h
end
section
variable {x u : Value} {l : List Value} {a0 a1 a2 a3 a4 a5 a6 a7 a8 a9 a10 a11 a12 a13 a14 a15 a16 a17 a18 a19 : Value}
theorem w0 : WAt 0 (x :: l) u (u :: l) := ⟨by simp, by simp⟩
theorem w1 : WAt 1 (a0 :: x :: l) u (a0 :: u :: l) := ⟨by simp, by simp⟩
theorem w2 : WAt 2 (a0 :: a1 :: x :: l) u (a0 :: a1 :: u :: l) := ⟨by simp, by simp⟩
theorem w3 : WAt 3 (a0 :: a1 :: a2 :: x :: l) u (a0 :: a1 :: a2 :: u :: l) := ⟨by simp, by simp⟩
theorem w4 : WAt 4 (a0 :: a1 :: a2 :: a3 :: x :: l) u (a0 :: a1 :: a2 :: a3 :: u :: l) := ⟨by simp, by simp⟩
theorem w5 : WAt 5 (a0 :: a1 :: a2 :: a3 :: a4 :: x :: l) u (a0 :: a1 :: a2 :: a3 :: a4 :: u :: l) := ⟨by simp, by simp⟩
theorem w6 : WAt 6 (a0 :: a1 :: a2 :: a3 :: a4 :: a5 :: x :: l) u (a0 :: a1 :: a2 :: a3 :: a4 :: a5 :: u :: l) := ⟨by simp, by simp⟩
theorem w7 : WAt 7 (a0 :: a1 :: a2 :: a3 :: a4 :: a5 :: a6 :: x :: l) u (a0 :: a1 :: a2 :: a3 :: a4 :: a5 :: a6 :: u :: l) := ⟨by simp, by simp⟩
theorem w8 : WAt 8 (a0 :: a1 :: a2 :: a3 :: a4 :: a5 :: a6 :: a7 :: x :: l) u (a0 :: a1 :: a2 :: a3 :: a4 :: a5 :: a6 :: a7 :: u :: l) := ⟨by simp, by simp⟩
theorem w9 : WAt 9 (a0 :: a1 :: a2 :: a3 :: a4 :: a5 :: a6 :: a7 :: a8 :: x :: l) u (a0 :: a1 :: a2 :: a3 :: a4 :: a5 :: a6 :: a7 :: a8 :: u :: l) := ⟨by simp, by simp⟩
theorem w10 : WAt 10 (a0 :: a1 :: a2 :: a3 :: a4 :: a5 :: a6 :: a7 :: a8 :: a9 :: x :: l) u (a0 :: a1 :: a2 :: a3 :: a4 :: a5 :: a6 :: a7 :: a8 :: a9 :: u :: l) := ⟨by simp, by simp⟩
theorem w11 : WAt 11 (a0 :: a1 :: a2 :: a3 :: a4 :: a5 :: a6 :: a7 :: a8 :: a9 :: a10 :: x :: l) u (a0 :: a1 :: a2 :: a3 :: a4 :: a5 :: a6 :: a7 :: a8 :: a9 :: a10 :: u :: l) := ⟨by simp, by simp⟩
theorem w12 : WAt 12 (a0 :: a1 :: a2 :: a3 :: a4 :: a5 :: a6 :: a7 :: a8 :: a9 :: a10 :: a11 :: x :: l) u (a0 :: a1 :: a2 :: a3 :: a4 :: a5 :: a6 :: a7 :: a8 :: a9 :: a10 :: a11 :: u :: l) := ⟨by simp, by simp⟩
theorem w13 : WAt 13 (a0 :: a1 :: a2 :: a3 :: a4 :: a5 :: a6 :: a7 :: a8 :: a9 :: a10 :: a11 :: a12 :: x :: l) u (a0 :: a1 :: a2 :: a3 :: a4 :: a5 :: a6 :: a7 :: a8 :: a9 :: a10 :: a11 :: a12 :: u :: l) := ⟨by simp, by simp⟩
theorem w14 : WAt 14 (a0 :: a1 :: a2 :: a3 :: a4 :: a5 :: a6 :: a7 :: a8 :: a9 :: a10 :: a11 :: a12 :: a13 :: x :: l) u (a0 :: a1 :: a2 :: a3 :: a4 :: a5 :: a6 :: a7 :: a8 :: a9 :: a10 :: a11 :: a12 :: a13 :: u :: l) := ⟨by simp, by simp⟩
theorem w15 : WAt 15 (a0 :: a1 :: a2 :: a3 :: a4 :: a5 :: a6 :: a7 :: a8 :: a9 :: a10 :: a11 :: a12 :: a13 :: a14 :: x :: l) u (a0 :: a1 :: a2 :: a3 :: a4 :: a5 :: a6 :: a7 :: a8 :: a9 :: a10 :: a11 :: a12 :: a13 :: a14 :: u :: l) := ⟨by simp, by simp⟩
theorem w16 : WAt 16 (a0 :: a1 :: a2 :: a3 :: a4 :: a5 :: a6 :: a7 :: a8 :: a9 :: a10 :: a11 :: a12 :: a13 :: a14 :: a15 :: x :: l) u (a0 :: a1 :: a2 :: a3 :: a4 :: a5 :: a6 :: a7 :: a8 :: a9 :: a10 :: a11 :: a12 :: a13 :: a14 :: a15 :: u :: l) := ⟨by simp, by simp⟩
theorem w17 : WAt 17 (a0 :: a1 :: a2 :: a3 :: a4 :: a5 :: a6 :: a7 :: a8 :: a9 :: a10 :: a11 :: a12 :: a13 :: a14 :: a15 :: a16 :: x :: l) u (a0 :: a1 :: a2 :: a3 :: a4 :: a5 :: a6 :: a7 :: a8 :: a9 :: a10 :: a11 :: a12 :: a13 :: a14 :: a15 :: a16 :: u :: l) := ⟨by simp, by simp⟩
end
section
variable {r : Option Nat} {P : Program} {ops : Array Oper} {Q : Exit → Act → World → Prop} {n B : Nat} {W : World} {R : RList} {L : List SProp} {α : Type} {a a2 o : α} {x y : Code} {c : Operand}
theorem ci {p : Prop} [Decidable p] (hs : (if p then a else a2) = o) (hc : EvalR R c (.bool (decide p))) (h1 : p → a = o → CT r P Q n B W x R L) (h2 : ¬p → a2 = o → CT r P Q n B W y R L) : CT r P Q n B W (.cond c x y) R L := ct_if hc (fun h => h1 h ((if_pos h).symm.trans hs)) (fun h => h2 h ((if_neg h).symm.trans hs))
theorem cj {b : Bool} (hs : (if b = true then a else a2) = o) (hc : EvalR R c (.bool b)) (h1 : b = true → a = o → CT r P Q n B W x R L) (h2 : b = false → a2 = o → CT r P Q n B W y R L) : CT r P Q n B W (.cond c x y) R L := ct_ifb hc (fun h => h1 h ((if_pos h).symm.trans hs)) (fun h => h2 h ((ifb_f h).symm.trans hs))
theorem q1 (h : CT r P Q n B W y R L) : RT r P ops (Exit.then (y.wpIn (rf r) 0 P Q) Q) n B W [] R L := rN (tT h)
theorem q2 {id : Nat} {l : List Oper} (h : RT r P l.toArray (Exit.then (y.wpIn (rf r) 0 P Q) Q) n B W l R L) : CT r P Q n B W (.seq (.region id l.toArray false) y) R L := cS (cR h)
theorem q3 {id : Nat} {l : List Oper} (h : RT r P l.toArray (Exit.then (y.wpIn (rf r) 0 P Q) Q) n B W l R L) : RT r P ops (Exit.then ((Code.seq (.region id l.toArray false) y).wpIn (rf r) 0 P Q) Q) n B W [] R L := q1 (q2 h)
theorem q4 (h : ET Q n B W .ret R L) : RT r P ops (Exit.then (Code.ret.wpIn (rf r) 0 P Q) Q) n B W [] R L := q1 (cQ h)
end
abbrev zi : Value := .int .i64 0
abbrev vi (x : Int) : Value := .int .i64 x
abbrev vu (x : Int) : Value := .int .u64 x
abbrev vp (b o : Nat) : Value := .pointer (some ⟨b, o, none⟩)
theorem sI {α : Type _} {a b : α} (h : some a = some b) : a = b := Option.some.inj h
theorem pn {α : Type _} {l : List α} : Picks l [] l := .nil
theorem eP {L M N : List SProp} (h : Picks L N M) : Ent L (N ++ M) := Ent.picks h
theorem lN {R : RList} : Less R [] := .nil
end Go.Proofs.YtpbkelpokpglaaaGreat
