/- Walks by program: what is taken from the injector, over the iterator. -/
import Derived.Test.YtkfkiaieeiodnaaSo16
namespace Go.Proofs.Ytkfkiaieeiodnaa
open Go Go.RowKit
theorem gi_drop_map {k : IntKind} {xs : List Int} {q i : Nat} (h : q + i < xs.length) : ((xs.drop q).map (Value.int k))[i]? = some (.int k (gi xs (q + i))) := by
  rw [List.getElem?_map, List.getElem?_drop, gi_get h]; rfl
def factA (p : Prop) (A : SProp) : SProp := fun h => p ∧ A h
theorem fact_of {p : Prop} {A : SProp} {L : List SProp} {B : Nat} {w : World} (h : Sat B w (factA p A :: L)) : p := by
  obtain ⟨_, _, _, _, _, _, h1, _⟩ := h; exact h1.1
theorem ent_fact {p : Prop} {A : SProp} {L : List SProp} (hp : p) : Ent (A :: L) (factA p A :: L) := Ent.cons (fun _ h => ⟨hp, h⟩) Ent.refl
theorem ent_unfact {p : Prop} {A : SProp} {L : List SProp} : Ent (factA p A :: L) (A :: L) := Ent.cons (fun _ h => h.2) Ent.refl
theorem Ent.tail {A : SProp} {L M : List SProp} (h : Ent L M) : Ent (A :: L) (A :: M) := Ent.cons (fun _ h => h) h
theorem regs_param {n d : Nat} {a : Act} {R : RList} {v : Value} (r : Regs n a R) (h : freshR n R d = true) : Regs n { tmps := (#[d].zip #[v]).foldl (fun t (p, v) => t.setIfInBounds p v) a.tmps, defers := [] } ((d, v) :: R) := by
  have h1 := put_new (v := v) h a r
  have e : ({ tmps := (#[d].zip #[v]).foldl (fun t (p, v) => t.setIfInBounds p v) a.tmps, defers := [] } : Act) = a.put (some d) v := by
    have := r.defers
    cases a; subst this
    show Act.mk _ _ = Act.mk _ _
    rw [show (#[d].zip #[v]) = #[(d, v)] from by simp]
    rfl
  rw [e]; exact h1
theorem grp_not {b : Bool} {p q : Int} (h : (!b) = false) (h2 : ¬ p ≤ q) : ¬ (b = false ∨ p ≤ q) := by
  rintro (h3 | h3)
  · rw [h3] at h; cases h
  · exact h2 h3
theorem not_true {b : Bool} (h : (!b) = true) : b = false := by simpa using h

set_option maxRecDepth 100000 in
theorem groups_spec (c : Cfg) (l : CfgAt) (CA : Option Addr) (cc : Nat) (cs : List Int) {B : Nat} {W : World} : Fn_ Try.prog 45 #[.agg #[.int .i64 c.workers, .int .i64 c.levels, .int .i64 c.classes, .int .i64 c.tasks, .int .i64 c.deque, .int .i64 c.heap, .int .i64 c.batch, .int .i64 c.age, .int .i64 c.patience, .slice l.pa c.progs.length l.pc, .slice l.sa c.subs.length l.sc, .int .i64 c.workers, .int .i64 c.levels, .int .i64 c.classes, .int .i64 c.tasks, .int .i64 c.deque, .int .i64 c.heap, .int .i64 ((laySlp c)), .int .i64 ((layEpo c)), .int .i64 ((layBit c)), .int .i64 ((layDeq c)), .int .i64 ((layTab c)), .slice CA cs.length cc]] B W [] (X := Nat) (fun b => .func (.func 63) #[] #[.pointer (some ⟨b, 0, none⟩)]) (fun b => [pts b 0 [.int .i64 c.workers, .int .i64 c.levels, .int .i64 c.classes, .int .i64 c.tasks, .int .i64 c.deque, .int .i64 c.heap, .int .i64 c.batch, .int .i64 c.age, .int .i64 c.patience, .slice l.pa c.progs.length l.pc, .slice l.sa c.subs.length l.sc, .int .i64 c.workers, .int .i64 c.levels, .int .i64 c.classes, .int .i64 c.tasks, .int .i64 c.deque, .int .i64 c.heap, .int .i64 ((laySlp c)), .int .i64 ((layEpo c)), .int .i64 ((layBit c)), .int .i64 ((layDeq c)), .int .i64 ((layTab c)), .slice CA cs.length cc]]) := by
  refine fn_enter Try.func45 rfl (m := 4) rfl (Nat.le_of_ble_eq_true rfl) (R := [(0, .agg #[.int .i64 c.workers, .int .i64 c.levels, .int .i64 c.classes, .int .i64 c.tasks, .int .i64 c.deque, .int .i64 c.heap, .int .i64 c.batch, .int .i64 c.age, .int .i64 c.patience, .slice l.pa c.progs.length l.pc, .slice l.sa c.subs.length l.sc, .int .i64 c.workers, .int .i64 c.levels, .int .i64 c.classes, .int .i64 c.tasks, .int .i64 c.deque, .int .i64 c.heap, .int .i64 ((laySlp c)), .int .i64 ((layEpo c)), .int .i64 ((layBit c)), .int .i64 ((layDeq c)), .int .i64 ((layTab c)), .slice CA cs.length cc])]) (by kernel_rfl) (fun F => ?_)
  refine ct_seq ?_
  refine ct_region ?_
  refine rt_t (ot_box (.tmp mem0) (us := [.int .i64 c.workers, .int .i64 c.levels, .int .i64 c.classes, .int .i64 c.tasks, .int .i64 c.deque, .int .i64 c.heap, .int .i64 c.batch, .int .i64 c.age, .int .i64 c.patience, .slice l.pa c.progs.length l.pc, .slice l.sa c.subs.length l.sc, .int .i64 c.workers, .int .i64 c.levels, .int .i64 c.classes, .int .i64 c.tasks, .int .i64 c.deque, .int .i64 c.heap, .int .i64 ((laySlp c)), .int .i64 ((layEpo c)), .int .i64 ((layBit c)), .int .i64 ((layDeq c)), .int .i64 ((layTab c)), .slice CA cs.length cc]) rfl) wants_none (fun _ => (put_new (by kernel_rfl))) ?_
  rintro b1
  refine rt_q (op_assign .const).q wants_none (put_new (by kernel_rfl)) ?_
  refine rt_nil ?_
  refine et_then ?_
  refine ct_seq ?_
  refine ct_region ?_
  refine rt_q (op_makeFunc (.cons (.tmp mem1) .nil)).q wants_none (put_new (by kernel_rfl)) ?_
  refine rt_q (op_assign (.tmp mem0)).q wants_none (put_over pick1 (by kernel_rfl)) ?_
  refine rt_nil ?_
  refine et_then ?_
  refine ct_ret ?_
  exact et_fn b1 rfl (.cons mem0 .nil) rfl Ent.refl

set_option maxRecDepth 100000 in
theorem injected_spec (c : Cfg) (l : CfgAt) (CA : Option Addr) (cc : Nat) (cs : List Int) (hn : CNums c) (hl : (cs.length : Int) = layCells c) (hcc : cs.length ≤ cc) (h8 : c.heap ≤ 8) {B : Nat} {W : World} (hS : Sl encU 1 W B CA cs) (hcw : CWf cs) (L : List SProp) : Pure Try.prog 30 #[.agg #[.int .i64 c.workers, .int .i64 c.levels, .int .i64 c.classes, .int .i64 c.tasks, .int .i64 c.deque, .int .i64 c.heap, .int .i64 c.batch, .int .i64 c.age, .int .i64 c.patience, .slice l.pa c.progs.length l.pc, .slice l.sa c.subs.length l.sc, .int .i64 c.workers, .int .i64 c.levels, .int .i64 c.classes, .int .i64 c.tasks, .int .i64 c.deque, .int .i64 c.heap, .int .i64 ((laySlp c)), .int .i64 ((layEpo c)), .int .i64 ((layBit c)), .int .i64 ((layDeq c)), .int .i64 ((layTab c)), .slice CA cs.length cc]] B W L (.tuple #[.int .i64 ((injV c cs).getD 0), .bool (injV c cs).isSome]) := by
  obtain ⟨t1, t2, t3, t4, t5⟩ := tab_in hn
  have ht := hn.t
  have hcl : layCells c = layTab c + 5 * c.tasks := rfl
  have hd := hn.d
  have hh := hn.h
  have hbt := hn.b
  have hkw := injKeys_wf hcw
  intro w0 hw0
  refine marks_enter Try.func30 rfl (m := 53) rfl (Nat.le_of_ble_eq_true rfl) (R := [(0, .agg #[.int .i64 c.workers, .int .i64 c.levels, .int .i64 c.classes, .int .i64 c.tasks, .int .i64 c.deque, .int .i64 c.heap, .int .i64 c.batch, .int .i64 c.age, .int .i64 c.patience, .slice l.pa c.progs.length l.pc, .slice l.sa c.subs.length l.sc, .int .i64 c.workers, .int .i64 c.levels, .int .i64 c.classes, .int .i64 c.tasks, .int .i64 c.deque, .int .i64 c.heap, .int .i64 ((laySlp c)), .int .i64 ((layEpo c)), .int .i64 ((layBit c)), .int .i64 ((layDeq c)), .int .i64 ((layTab c)), .slice CA cs.length cc])]) (by kernel_rfl) (show Cls B W [starS L] w0 from cls_fold (L := []) hw0) ?_
  refine ct_seq ?_
  refine ct_region ?_
  refine rt_t (ot_box (.tmp mem0) (us := [.int .i64 c.workers, .int .i64 c.levels, .int .i64 c.classes, .int .i64 c.tasks, .int .i64 c.deque, .int .i64 c.heap, .int .i64 c.batch, .int .i64 c.age, .int .i64 c.patience, .slice l.pa c.progs.length l.pc, .slice l.sa c.subs.length l.sc, .int .i64 c.workers, .int .i64 c.levels, .int .i64 c.classes, .int .i64 c.tasks, .int .i64 c.deque, .int .i64 c.heap, .int .i64 ((laySlp c)), .int .i64 ((layEpo c)), .int .i64 ((layBit c)), .int .i64 ((layDeq c)), .int .i64 ((layTab c)), .slice CA cs.length cc]) rfl) wants_none (fun _ => (put_new (by kernel_rfl))) ?_
  rintro b1
  refine rt_t (ot_alloc (v := .int .i64 0) (us := [.int .i64 0]) (by kernel_rfl) rfl) wants_none (fun _ => (put_new (by kernel_rfl))) ?_
  rintro b2
  refine rt_t (ot_alloc (v := .bool false) (us := [.bool false]) (by kernel_rfl) rfl) wants_none (fun _ => (put_new (by kernel_rfl))) ?_
  rintro b3
  refine rt_nil ?_
  refine et_then ?_
  refine ct_seq ?_
  refine ct_seq ?_
  refine ct_region ?_
  refine rt_q (oq_loadA (o := 0) (i := 0) (k := 23) (us := [.int .i64 c.workers, .int .i64 c.levels, .int .i64 c.classes, .int .i64 c.tasks, .int .i64 c.deque, .int .i64 c.heap, .int .i64 c.batch, .int .i64 c.age, .int .i64 c.patience, .slice l.pa c.progs.length l.pc, .slice l.sa c.subs.length l.sc, .int .i64 c.workers, .int .i64 c.levels, .int .i64 c.classes, .int .i64 c.tasks, .int .i64 c.deque, .int .i64 c.heap, .int .i64 ((laySlp c)), .int .i64 ((layEpo c)), .int .i64 ((layBit c)), .int .i64 ((layDeq c)), .int .i64 ((layTab c)), .slice CA cs.length cc]) (.tmp mem2) mem2 (rfl) (by kernel_rfl) rfl rfl) wants_none (put_new (by kernel_rfl)) ?_
  refine rt_t (ot_call0 (by kernel_rfl) (.cons (.tmp mem0) .nil) (groups_spec c l CA cc cs) .nil) wants_none (fun _ => (put_new (by kernel_rfl))) ?_
  rintro b4
  refine rt_nil ?_
  refine et_then ?_
  refine ct_block ?_
  intro a w s
  have hseq := groups_seq c l CA cc cs hn hl hcc h8 hS hcw b4
  refine wpIn_rangeC ((EvalR.tmp mem0).eval s.regs) (fun args w => call_run rfl args) hseq (fun _ => rfl) (fun pre => [factA (injIn c cs → injV c cs = injFrom c cs ((injN cs).toNat - pre.length * c.batch.toNat) ((injKeys cs).drop (pre.length * c.batch.toNat))) (pts b3 0 [.bool false]), pts b2 0 [.int .i64 0], pts b1 0 [.int .i64 c.workers, .int .i64 c.levels, .int .i64 c.classes, .int .i64 c.tasks, .int .i64 c.deque, .int .i64 c.heap, .int .i64 c.batch, .int .i64 c.age, .int .i64 c.patience, .slice l.pa c.progs.length l.pc, .slice l.sa c.subs.length l.sc, .int .i64 c.workers, .int .i64 c.levels, .int .i64 c.classes, .int .i64 c.tasks, .int .i64 c.deque, .int .i64 c.heap, .int .i64 ((laySlp c)), .int .i64 ((layEpo c)), .int .i64 ((layBit c)), .int .i64 ((layDeq c)), .int .i64 ((layTab c)), .slice CA cs.length cc]]) (fun _ => [factA ((injV c cs).isSome = true) (pts b3 0 [.bool true]), pts b2 0 [.int .i64 ((injV c cs).getD 0)], pts b1 0 [.int .i64 c.workers, .int .i64 c.levels, .int .i64 c.classes, .int .i64 c.tasks, .int .i64 c.deque, .int .i64 c.heap, .int .i64 c.batch, .int .i64 c.age, .int .i64 c.patience, .slice l.pa c.progs.length l.pc, .slice l.sa c.subs.length l.sc, .int .i64 c.workers, .int .i64 c.levels, .int .i64 c.classes, .int .i64 c.tasks, .int .i64 c.deque, .int .i64 c.heap, .int .i64 ((laySlp c)), .int .i64 ((layEpo c)), .int .i64 ((layBit c)), .int .i64 ((layDeq c)), .int .i64 ((layTab c)), .slice CA cs.length cc]]) (F0 := starS L) (s.cls.ent (Ent.tail (ent_fact (fun hi => by rw [List.length_nil, Nat.zero_mul]; exact injV_in hi rfl)))) (fun x a' => Regs 53 a' [(4, .slice x.A (kOf c ((injN cs).toNat - x.q)).toNat x.cp), (16, .slice x.A (kOf c ((injN cs).toNat - x.q)).toNat x.cp), (15, .func (.func 63) #[] #[.pointer (some ⟨b4, 0, none⟩)]), (14, .agg #[.int .i64 c.workers, .int .i64 c.levels, .int .i64 c.classes, .int .i64 c.tasks, .int .i64 c.deque, .int .i64 c.heap, .int .i64 c.batch, .int .i64 c.age, .int .i64 c.patience, .slice l.pa c.progs.length l.pc, .slice l.sa c.subs.length l.sc, .int .i64 c.workers, .int .i64 c.levels, .int .i64 c.classes, .int .i64 c.tasks, .int .i64 c.deque, .int .i64 c.heap, .int .i64 ((laySlp c)), .int .i64 ((layEpo c)), .int .i64 ((layBit c)), .int .i64 ((layDeq c)), .int .i64 ((layTab c)), .slice CA cs.length cc]), (3, .pointer (some ⟨b3, 0, none⟩)), (2, .pointer (some ⟨b2, 0, none⟩)), (1, .pointer (some ⟨b1, 0, none⟩)), (0, .agg #[.int .i64 c.workers, .int .i64 c.levels, .int .i64 c.classes, .int .i64 c.tasks, .int .i64 c.deque, .int .i64 c.heap, .int .i64 c.batch, .int .i64 c.age, .int .i64 c.patience, .slice l.pa c.progs.length l.pc, .slice l.sa c.subs.length l.sc, .int .i64 c.workers, .int .i64 c.levels, .int .i64 c.classes, .int .i64 c.tasks, .int .i64 c.deque, .int .i64 c.heap, .int .i64 ((laySlp c)), .int .i64 ((layEpo c)), .int .i64 ((layBit c)), .int .i64 ((layDeq c)), .int .i64 ((layTab c)), .slice CA cs.length cc])]) ?_ ?_ ?_ ?_
  · intro l0 x u K hK
    exact assign_one (R := [(16, .slice x.A (kOf c ((injN cs).toNat - x.q)).toNat x.cp), (15, .func (.func 63) #[] #[.pointer (some ⟨b4, 0, none⟩)]), (14, .agg #[.int .i64 c.workers, .int .i64 c.levels, .int .i64 c.classes, .int .i64 c.tasks, .int .i64 c.deque, .int .i64 c.heap, .int .i64 c.batch, .int .i64 c.age, .int .i64 c.patience, .slice l.pa c.progs.length l.pc, .slice l.sa c.subs.length l.sc, .int .i64 c.workers, .int .i64 c.levels, .int .i64 c.classes, .int .i64 c.tasks, .int .i64 c.deque, .int .i64 c.heap, .int .i64 ((laySlp c)), .int .i64 ((layEpo c)), .int .i64 ((layBit c)), .int .i64 ((layDeq c)), .int .i64 ((layTab c)), .slice CA cs.length cc]), (3, .pointer (some ⟨b3, 0, none⟩)), (2, .pointer (some ⟨b2, 0, none⟩)), (1, .pointer (some ⟨b1, 0, none⟩)), (0, .agg #[.int .i64 c.workers, .int .i64 c.levels, .int .i64 c.classes, .int .i64 c.tasks, .int .i64 c.deque, .int .i64 c.heap, .int .i64 c.batch, .int .i64 c.age, .int .i64 c.patience, .slice l.pa c.progs.length l.pc, .slice l.sa c.subs.length l.sc, .int .i64 c.workers, .int .i64 c.levels, .int .i64 c.classes, .int .i64 c.tasks, .int .i64 c.deque, .int .i64 c.heap, .int .i64 ((laySlp c)), .int .i64 ((layEpo c)), .int .i64 ((layBit c)), .int .i64 ((layDeq c)), .int .i64 ((layTab c)), .slice CA cs.length cc])]) (op_assign (.tmp mem0)) rfl (put_new (by kernel_rfl)) (regs_param s.regs (by kernel_rfl)) hK
  · rintro l0 pre x F u a1 ha1 ⟨hxq, hxN, hin⟩ hu
    have hp0 := fact_of ((hu.ent Ent.drop).ent Ent.drop).2.2
    have hksl : (injKeys cs).length = (injN cs).toNat := injKeys_len hin (by omega)
    have hk := kOf_spec c ((injN cs).toNat - x.q) (by omega)
    have hin2 := hin.1
    have hin3 := hin.2
    refine (?_ : CT (some l0) Try.prog _ 53 B W _ [(4, .slice x.A (kOf c ((injN cs).toNat - x.q)).toNat x.cp), (16, .slice x.A (kOf c ((injN cs).toNat - x.q)).toNat x.cp), (15, .func (.func 63) #[] #[.pointer (some ⟨b4, 0, none⟩)]), (14, .agg #[.int .i64 c.workers, .int .i64 c.levels, .int .i64 c.classes, .int .i64 c.tasks, .int .i64 c.deque, .int .i64 c.heap, .int .i64 c.batch, .int .i64 c.age, .int .i64 c.patience, .slice l.pa c.progs.length l.pc, .slice l.sa c.subs.length l.sc, .int .i64 c.workers, .int .i64 c.levels, .int .i64 c.classes, .int .i64 c.tasks, .int .i64 c.deque, .int .i64 c.heap, .int .i64 ((laySlp c)), .int .i64 ((layEpo c)), .int .i64 ((layBit c)), .int .i64 ((layDeq c)), .int .i64 ((layTab c)), .slice CA cs.length cc]), (3, .pointer (some ⟨b3, 0, none⟩)), (2, .pointer (some ⟨b2, 0, none⟩)), (1, .pointer (some ⟨b1, 0, none⟩)), (0, .agg #[.int .i64 c.workers, .int .i64 c.levels, .int .i64 c.classes, .int .i64 c.tasks, .int .i64 c.deque, .int .i64 c.heap, .int .i64 c.batch, .int .i64 c.age, .int .i64 c.patience, .slice l.pa c.progs.length l.pc, .slice l.sa c.subs.length l.sc, .int .i64 c.workers, .int .i64 c.levels, .int .i64 c.classes, .int .i64 c.tasks, .int .i64 c.deque, .int .i64 c.heap, .int .i64 ((laySlp c)), .int .i64 ((layEpo c)), .int .i64 ((layBit c)), .int .i64 ((layDeq c)), .int .i64 ((layTab c)), .slice CA cs.length cc])] _) a1 u ((hu.ent (Ent.tail (Ent.tail ent_unfact))).st ha1)
    refine ct_block ?_
    refine ct_seq ?_
    refine ct_region ?_
    refine rt_q (op_assign .const).q wants_none (put_new (by kernel_rfl)) ?_
    refine rt_q (op_assign .const).q wants_none (put_new (by kernel_rfl)) ?_
    refine rt_q (op_assign .const).q wants_none (put_new (by kernel_rfl)) ?_
    refine rt_nil ?_
    refine et_then ?_
    refine ct_seq ?_
    refine ct_seq ?_
    refine ct_region ?_
    refine rt_q (op_move (.tmp mem3)).q wants_none (put_new (by kernel_rfl)) ?_
    refine rt_q (op_len (.tmp mem0) Try.underlying26).q wants_none (put_new (by kernel_rfl)) ?_
    refine rt_q (op_move .const).q wants_none (put_new (by kernel_rfl)) ?_
    refine rt_nil ?_
    refine et_then ?_
    refine ct_block ?_
    refine ct_loop (X := Nat) (fun i => (kOf c ((injN cs).toNat - x.q)).toNat - i) (fun i => i ≤ (kOf c ((injN cs).toNat - x.q)).toNat) (fun i => [(19, .int .i64 ((i : Int))), (18, .int .i64 ((((kOf c ((injN cs).toNat - x.q)).toNat : Nat) : Int))), (17, .slice x.A ((kOf c ((injN cs).toNat - x.q)).toNat) x.cp), (7, .bool ((grpA c cs (injKeys cs) x.q (x.q + i)).2.2)), (6, .int .u64 ((grpA c cs (injKeys cs) x.q (x.q + i)).2.1)), (5, .int .i64 ((grpA c cs (injKeys cs) x.q (x.q + i)).1)), (3, .pointer (some ⟨b3, 0, none⟩)), (2, .pointer (some ⟨b2, 0, none⟩)), (1, .pointer (some ⟨b1, 0, none⟩))]) (fun i => rowS x.A ((injN cs).toNat - x.q) x.cp 1 (((injKeys cs).drop x.q).map (Value.int .u64)) :: pts b4 0 [.int .i64 c.workers, .int .i64 c.levels, .int .i64 c.classes, .int .i64 c.tasks, .int .i64 c.deque, .int .i64 c.heap, .int .i64 c.batch, .int .i64 c.age, .int .i64 c.patience, .slice l.pa c.progs.length l.pc, .slice l.sa c.subs.length l.sc, .int .i64 c.workers, .int .i64 c.levels, .int .i64 c.classes, .int .i64 c.tasks, .int .i64 c.deque, .int .i64 c.heap, .int .i64 ((laySlp c)), .int .i64 ((layEpo c)), .int .i64 ((layBit c)), .int .i64 ((layDeq c)), .int .i64 ((layTab c)), .slice CA cs.length cc] :: pts b3 0 [.bool false] :: pts b2 0 [.int .i64 0] :: pts b1 0 [.int .i64 c.workers, .int .i64 c.levels, .int .i64 c.classes, .int .i64 c.tasks, .int .i64 c.deque, .int .i64 c.heap, .int .i64 c.batch, .int .i64 c.age, .int .i64 c.patience, .slice l.pa c.progs.length l.pc, .slice l.sa c.subs.length l.sc, .int .i64 c.workers, .int .i64 c.levels, .int .i64 c.classes, .int .i64 c.tasks, .int .i64 c.deque, .int .i64 c.heap, .int .i64 ((laySlp c)), .int .i64 ((layEpo c)), .int .i64 ((layBit c)), .int .i64 ((layDeq c)), .int .i64 ((layTab c)), .slice CA cs.length cc] :: [F]) 0 (by omega) (.cons mem0 (congrArg (Value.int .i64) (by first | rfl | omega | (simp; omega) | simp)) (.cons mem1 rfl (.cons mem2 rfl (.cons mem3 (congrArg Value.bool (by simp [grpA, grpV])) (.cons mem4 (congrArg (Value.int .u64) (by simp [grpA, grpV])) (.cons mem5 (congrArg (Value.int .i64) (by simp [grpA, grpV])) (.cons mem10 rfl (.cons mem11 rfl (.cons mem12 rfl .nil))))))))) (Ent.refl) (fun i hi101 => ?_)
    have hi0 := hi101
    refine ct_seq ?_
    refine ct_region ?_
    refine rt_q (op_lss (.tmp mem0) (.tmp mem1)).q wants_none (put_new (by kernel_rfl)) ?_
    refine rt_nil ?_
    refine et_then ?_
    refine ct_seq ?_
    refine ct_if (.tmp mem0) (fun h102 => ?_) (fun h102 => ?_)
    · refine ct_skip ?_
      refine et_then ?_
      refine ct_seq ?_
      refine ct_block ?_
      refine ct_seq ?_
      refine ct_region ?_
      refine rt_q (oq_indexS (i := i) (.tmp mem3) (.tmp mem1) mem0 (by omega) (by omega) (by omega) (by kernel_rfl) (Nat.mul_one _)) wants_none (put_new (by kernel_rfl)) ?_
      refine rt_q (oq_loadS (i := i) (.tmp mem0) mem0 (gi_drop_map (by omega)) (by kernel_rfl)) wants_none (put_new (by kernel_rfl)) ?_
      refine rt_q (op_assign (.tmp mem0)).q wants_none (put_new (by kernel_rfl)) ?_
      refine rt_nil ?_
      refine et_then ?_
      refine ct_seq ?_
      refine ct_region ?_
      refine rt_q (op_move (.tmp mem0)).q wants_none (put_new (by kernel_rfl)) ?_
      have hkj := hkw (x.q + i)
      refine rt_q (oq_call0 (by kernel_rfl) (.cons (.tmp mem0) .nil) (unpack_spec _ (by omega) (by omega) B W _)) wants_none (put_new (by kernel_rfl)) ?_
      refine rt_q (op_move (.tmp mem0)).q wants_none (put_new (by kernel_rfl)) ?_
      refine rt_q (op_extract (.tmp mem0) rfl).q wants_none (put_new (by kernel_rfl)) ?_
      refine rt_q (op_extract (.tmp mem1) rfl).q wants_none (put_new (by kernel_rfl)) ?_
      refine rt_q (op_extract (.tmp mem2) rfl).q wants_none (put_new (by kernel_rfl)) ?_
      refine rt_q (op_assign (.tmp mem2)).q wants_none (put_new (by kernel_rfl)) ?_
      refine rt_q (op_assign (.tmp mem2)).q wants_none (put_new (by kernel_rfl)) ?_
      refine rt_q (op_assign (.tmp mem2)).q wants_none (put_new (by kernel_rfl)) ?_
      refine rt_nil ?_
      refine et_then ?_
      refine ct_seq ?_
      refine ct_seq ?_
      refine ct_region ?_
      refine rt_q (oq_loadA (o := 0) (i := 0) (k := 23) (us := [.int .i64 c.workers, .int .i64 c.levels, .int .i64 c.classes, .int .i64 c.tasks, .int .i64 c.deque, .int .i64 c.heap, .int .i64 c.batch, .int .i64 c.age, .int .i64 c.patience, .slice l.pa c.progs.length l.pc, .slice l.sa c.subs.length l.sc, .int .i64 c.workers, .int .i64 c.levels, .int .i64 c.classes, .int .i64 c.tasks, .int .i64 c.deque, .int .i64 c.heap, .int .i64 ((laySlp c)), .int .i64 ((layEpo c)), .int .i64 ((layBit c)), .int .i64 ((layDeq c)), .int .i64 ((layTab c)), .slice CA cs.length cc]) (.tmp (memU mem1)) mem4 (rfl) (by kernel_rfl) rfl rfl) wants_none (put_new (by kernel_rfl)) ?_
      refine rt_q (op_move (.tmp mem1)).q wants_none (put_new (by kernel_rfl)) ?_
      refine rt_q (oq_call0 (by kernel_rfl) (.cons (.tmp mem1) (.cons (.tmp mem0) .nil)) (ready_spec c l CA cc cs hn hl _ hS hcw _)) wants_none (put_new (by kernel_rfl)) ?_
      refine rt_q (op_notb (.tmp mem0)).q wants_none (put_new (by kernel_rfl)) ?_
      refine rt_nil ?_
      refine et_then ?_
      refine ct_ifb (.tmp mem0) (fun h103 => ?_) (fun h103 => ?_)
      · refine ct_exit ?_
        refine et_then_exit ?_
        refine et_block_here ?_
        refine et_then ?_
        refine ct_region ?_
        refine rt_q (op_add (.tmp mem17) .const (w64 (by omega) (by omega))).q wants_none (put_new (by kernel_rfl)) ?_
        refine rt_q (op_move (.tmp mem0)).q wants_none (put_over pick18 (by kernel_rfl)) ?_
        refine rt_nil ?_
        have hgs : grpA c cs (injKeys cs) x.q (x.q + (i + 1)) = (grpA c cs (injKeys cs) x.q (x.q + i)) := by first | exact grpA_no (j := (x.q + i)) (by omega) (by omega) (readyB_no (by assumption)) | exact grpA_less (j := (x.q + i)) (by omega) (by omega) (grp_not (by assumption) (by rw [← hcell]; omega))
        exact et_again (n := 53) ((i + 1)) (by omega) (by omega) (.cons mem0 (congrArg (Value.int .i64) (by first | rfl | omega | (simp; omega) | simp)) (.cons mem19 rfl (.cons (memU mem0) rfl (.cons (memU mem1) (congrArg Value.bool (by rw [hgs])) (.cons (memU mem2) (congrArg (Value.int .u64) (by rw [hgs] <;> first | exact hcell | rfl)) (.cons (memU mem3) (congrArg (Value.int .i64) (by rw [hgs] <;> first | exact hcell | rfl)) (.cons (memU mem4) rfl (.cons (memU mem5) rfl (.cons (memU mem6) rfl .nil))))))))) (Ent.refl)
      · refine ct_skip ?_
        refine et_then ?_
        refine ct_seq ?_
        refine ct_draw (by kernel_rfl) (by kernel_rfl) ?_
        refine qt_q (op_field (k := 22) (o' := 22) (.tmp (memU mem5)) (by kernel_rfl) (by rfl)).q wants_none (put_new (by kernel_rfl)) ?_
        refine qt_q (oq_load (o := 0) (i := 22) (.tmp mem0) mem4 (rfl) rfl (by kernel_rfl)) wants_none (put_new (by kernel_rfl)) ?_
        refine qt_q (op_field (k := 11) (o' := 11) (.tmp (memU mem7)) (by kernel_rfl) (by rfl)).q wants_none (put_new (by kernel_rfl)) ?_
        refine qt_q (oq_loadA (o := 0) (i := 11) (k := 11) (us := [.int .i64 c.workers, .int .i64 c.levels, .int .i64 c.classes, .int .i64 c.tasks, .int .i64 c.deque, .int .i64 c.heap, .int .i64 ((laySlp c)), .int .i64 ((layEpo c)), .int .i64 ((layBit c)), .int .i64 ((layDeq c)), .int .i64 ((layTab c))]) (.tmp mem0) mem4 (rfl) (by kernel_rfl) rfl rfl) wants_none (put_new (by kernel_rfl)) ?_
        refine qt_q (op_move (.tmp mem8)).q wants_none (put_new (by kernel_rfl)) ?_
        obtain ⟨ht0, ht1⟩ := readyB_in (by assumption)
        have hat : atV ((gi (injKeys cs) (x.q + i)) % 65536) c.tasks (layTab c + 1) 5 = layTab c + 1 + ((gi (injKeys cs) (x.q + i)) % 65536) * 5 := atV_in (by omega) (by omega)
        have hcell : gi cs (atV ((gi (injKeys cs) (x.q + i)) % 65536) c.tasks (layTab c + 1) 5).toNat = cellAt cs (layTab c + 1 + (gi (injKeys cs) (x.q + i)) % 65536 * 5) := by rw [hat]; rfl
        refine qt_q (oq_call0 (by kernel_rfl) (.cons (.tmp mem1) (.cons (.tmp mem0) .nil)) (layLevel_spec c hn _ B W _)) wants_none (put_new (by kernel_rfl)) ?_
        refine qt_q (op_indexW (i := ((atV (((gi (injKeys cs) (x.q + i)) % 65536)) c.tasks (layTab c + 1) 5)).toNat) (.tmp mem4) (.tmp mem0) hS (by omega) (by omega) (by omega) (by kernel_rfl) (Nat.mul_one _)).q wants_none (put_new (by kernel_rfl)) ?_
        refine qt_q (oq_loadW1 (i := ((atV (((gi (injKeys cs) (x.q + i)) % 65536)) c.tasks (layTab c + 1) 5)).toNat) (j := 0) (.tmp mem0) hS (gi_get (by omega)) rfl (by omega) (by kernel_rfl)) wants_none (put_new (by kernel_rfl)) ?_
        refine qt_q (op_assign (.tmp mem0)).q wants_none (put_new (by kernel_rfl)) ?_
        refine qt_nil ?_
        refine et_then ?_
        refine ct_seq ?_
        refine ct_region ?_
        refine rt_q (op_move (.tmp (memU mem9))).q wants_none (put_new (by kernel_rfl)) ?_
        refine rt_q (op_notb (.tmp mem0)).q wants_none (put_new (by kernel_rfl)) ?_
        refine rt_q (op_move (.tmp mem0)).q wants_none (put_new (by kernel_rfl)) ?_
        refine rt_caseb turn0 turn0 (fun h104 => ?_) (fun h104 => ?_)
        · refine rt_skip (wants_some rfl rfl mem0 rfl) (put_new (by kernel_rfl)) ?_
          refine rt_skip (wants_some rfl rfl mem1 rfl) (put_new (by kernel_rfl)) ?_
          refine rt_skip (wants_some rfl rfl mem2 rfl) (put_new (by kernel_rfl)) ?_
          refine rt_q (op_pick (b := true) (.tmp mem3) .const).q wants_none (put_new (by kernel_rfl)) ?_
          refine rt_nil ?_
          refine et_then ?_
          refine ct_true (.tmp mem0) ?_
          refine ct_region ?_
          refine rt_q (op_move (.tmp (memU mem0))).q wants_none (put_new (by kernel_rfl)) ?_
          refine rt_q (op_move (.tmp mem8)).q wants_none (put_new (by kernel_rfl)) ?_
          refine rt_q (op_assign (.tmp mem1)).q wants_none (put_over (pickU (pickU pick0)) (by kernel_rfl)) ?_
          refine rt_q (op_assign (.tmp mem1)).q wants_none (put_over (pickU (pickU pick0)) (by kernel_rfl)) ?_
          refine rt_q (op_assign .const).q wants_none (put_over (pickU (pickU pick0)) (by kernel_rfl)) ?_
          refine rt_nil ?_
          refine et_block ?_
          refine et_then ?_
          refine ct_region ?_
          refine rt_q (op_add (.tmp (memU mem18)) .const (w64 (by omega) (by omega))).q wants_none (put_new (by kernel_rfl)) ?_
          refine rt_q (op_move (.tmp mem0)).q wants_none (put_over (pickU pick19) (by kernel_rfl)) ?_
          refine rt_nil ?_
          have hgs : grpA c cs (injKeys cs) x.q (x.q + (i + 1)) = _ := grpA_yes (c := c) (cs := cs) (ks := (injKeys cs)) (q := x.q) (j := (x.q + i)) (by omega) (by omega) (readyB_yes (by assumption)) (by first | exact .inl (not_true (by assumption)) | exact .inr (by rw [← hcell]; omega))
          exact et_again (n := 53) ((i + 1)) (by omega) (by omega) (.cons mem0 (congrArg (Value.int .i64) (by first | rfl | omega | (simp; omega) | simp)) (.cons (memU (memU mem0)) rfl (.cons (memU (memU mem1)) rfl (.cons mem2 (congrArg Value.bool (by rw [hgs])) (.cons mem3 (congrArg (Value.int .u64) (by rw [hgs] <;> first | exact hcell | rfl)) (.cons mem4 (congrArg (Value.int .i64) (by rw [hgs] <;> first | exact hcell | rfl)) (.cons (memU (memU mem2)) rfl (.cons (memU (memU mem3)) rfl (.cons (memU (memU mem4)) rfl .nil))))))))) (Ent.refl)
        · refine rt_q (op_move (.tmp mem3)).q (wants_some rfl rfl mem0 rfl) (put_new (by kernel_rfl)) ?_
          refine rt_q (op_move (.tmp (memU mem14))).q (wants_some rfl rfl mem1 rfl) (put_new (by kernel_rfl)) ?_
          refine rt_q (op_geq (.tmp mem1) (.tmp mem0)).q (wants_some rfl rfl mem2 rfl) (put_new (by kernel_rfl)) ?_
          refine rt_q (op_pick (b := false) (.tmp mem3) (.tmp mem0)).q wants_none (put_new (by kernel_rfl)) ?_
          refine rt_nil ?_
          refine et_then ?_
          refine ct_if (.tmp mem0) (fun h105 => ?_) (fun h105 => ?_)
          · refine ct_region ?_
            refine rt_q (op_move (.tmp (memU mem0))).q wants_none (put_new (by kernel_rfl)) ?_
            refine rt_q (op_move (.tmp mem8)).q wants_none (put_new (by kernel_rfl)) ?_
            refine rt_q (op_assign (.tmp mem1)).q wants_none (put_over (pickU (pickU pick0)) (by kernel_rfl)) ?_
            refine rt_q (op_assign (.tmp mem1)).q wants_none (put_over (pickU (pickU pick0)) (by kernel_rfl)) ?_
            refine rt_q (op_assign .const).q wants_none (put_over (pickU (pickU pick0)) (by kernel_rfl)) ?_
            refine rt_nil ?_
            refine et_block ?_
            refine et_then ?_
            refine ct_region ?_
            refine rt_q (op_add (.tmp (memU mem18)) .const (w64 (by omega) (by omega))).q wants_none (put_new (by kernel_rfl)) ?_
            refine rt_q (op_move (.tmp mem0)).q wants_none (put_over (pickU pick19) (by kernel_rfl)) ?_
            refine rt_nil ?_
            have hgs : grpA c cs (injKeys cs) x.q (x.q + (i + 1)) = _ := grpA_yes (c := c) (cs := cs) (ks := (injKeys cs)) (q := x.q) (j := (x.q + i)) (by omega) (by omega) (readyB_yes (by assumption)) (by first | exact .inl (not_true (by assumption)) | exact .inr (by rw [← hcell]; omega))
            exact et_again (n := 53) ((i + 1)) (by omega) (by omega) (.cons mem0 (congrArg (Value.int .i64) (by first | rfl | omega | (simp; omega) | simp)) (.cons (memU (memU mem0)) rfl (.cons (memU (memU mem1)) rfl (.cons mem2 (congrArg Value.bool (by rw [hgs])) (.cons mem3 (congrArg (Value.int .u64) (by rw [hgs] <;> first | exact hcell | rfl)) (.cons mem4 (congrArg (Value.int .i64) (by rw [hgs] <;> first | exact hcell | rfl)) (.cons (memU (memU mem2)) rfl (.cons (memU (memU mem3)) rfl (.cons (memU (memU mem4)) rfl .nil))))))))) (Ent.refl)
          · refine ct_skip ?_
            refine et_block ?_
            refine et_then ?_
            refine ct_region ?_
            refine rt_q (op_add (.tmp (memU mem13)) .const (w64 (by omega) (by omega))).q wants_none (put_new (by kernel_rfl)) ?_
            refine rt_q (op_move (.tmp mem0)).q wants_none (put_over (pickU pick14) (by kernel_rfl)) ?_
            refine rt_nil ?_
            have hgs : grpA c cs (injKeys cs) x.q (x.q + (i + 1)) = (grpA c cs (injKeys cs) x.q (x.q + i)) := by first | exact grpA_no (j := (x.q + i)) (by omega) (by omega) (readyB_no (by assumption)) | exact grpA_less (j := (x.q + i)) (by omega) (by omega) (grp_not (by assumption) (by rw [← hcell]; omega))
            exact et_again (n := 53) ((i + 1)) (by omega) (by omega) (.cons mem0 (congrArg (Value.int .i64) (by first | rfl | omega | (simp; omega) | simp)) (.cons (memU mem15) rfl (.cons (memU mem16) rfl (.cons (memU mem17) (congrArg Value.bool (by rw [hgs])) (.cons (memU mem18) (congrArg (Value.int .u64) (by rw [hgs] <;> first | exact hcell | rfl)) (.cons (memU mem19) (congrArg (Value.int .i64) (by rw [hgs] <;> first | exact hcell | rfl)) (.cons (memU (memU mem0)) rfl (.cons (memU (memU mem1)) rfl (.cons (memU (memU mem2)) rfl .nil))))))))) (Ent.refl)
    · refine ct_exit ?_
      refine et_then_exit ?_
      refine et_then_exit ?_
      refine et_block_here ?_
      refine et_then ?_
      refine ct_seq ?_
      refine ct_region ?_
      refine rt_q (op_move (.tmp mem4)).q wants_none (put_new (by kernel_rfl)) ?_
      refine rt_nil ?_
      refine et_then ?_
      refine ct_ifb (.tmp mem0) (fun h106 => ?_) (fun h106 => ?_)
      · refine ct_seq ?_
        refine ct_region ?_
        refine rt_q (op_move (.tmp mem7)).q wants_none (put_new (by kernel_rfl)) ?_
        refine rt_t (ot_store (o := 0) (i := 0) (k := 1) (us := [.int .i64 ((grpA c cs (injKeys cs) x.q (x.q + i)).1)]) (ws := [.int .i64 ((grpA c cs (injKeys cs) x.q (x.q + i)).1)]) (.tmp mem10) (.tmp mem0) turn3 (rfl) (by kernel_rfl) rfl (by decide) rfl rfl (by simp) rfl) wants_none (fun _ => put_none) (fun _ => ?_)
        refine rt_t (ot_store (o := 0) (i := 0) (k := 1) (us := [.bool true]) (ws := [.bool true]) (.tmp mem9) .const turn2 (rfl) (by kernel_rfl) rfl (by decide) rfl rfl (by simp) rfl) wants_none (fun _ => put_none) (fun _ => ?_)
        refine rt_nil ?_
        refine et_then ?_
        refine ct_ret ?_
        refine et_block_ret ?_
        have hy := inj_yes (c := c) (cs := cs) (ks := (injKeys cs)) (i := (injN cs).toNat) (q := x.q) (j := (x.q + i)) hksl (by omega) (by omega) (by omega) (by omega) (by assumption)
        have hv : injV c cs = some (grpA c cs (injKeys cs) x.q (x.q + i)).1 := (hp0 hin).trans (by rw [← hxq]; exact hy)
        exact fun a4 w4 s4 => s4.cls.ent (Ent.tail (Ent.tail ((ent_fact (p := (injV c cs).isSome = true) (by rw [hv]; rfl)).trans (Ent.tail (Ent.cons (fun h hh => by rw [hv]; exact hh) Ent.refl)))))
      · refine ct_skip ?_
        refine et_block ?_
        have hno := inj_no (c := c) (cs := cs) (ks := (injKeys cs)) (i := (injN cs).toNat) (q := x.q) (j := (x.q + i)) (by omega) hksl (by omega) (by omega) (by omega) (by omega) (by assumption)
        exact fun a4 w4 s4 => s4.cls.ent (Ent.tail (Ent.tail (ent_fact (fun hi => by rw [len_snoc, ← hxq, ← hno, hxq]; exact hp0 hi))))
  · intro D xs u hxs hu
    have hp0 := fact_of ((hu.ent Ent.drop).ent Ent.drop).2.2
    have hnone : injV c cs = none := by
      rcases hxs with ⟨h1, rfl⟩ | ⟨h1, h2⟩
      · exact injV_out (by unfold injIn at h1; omega)
      · rw [hp0 h1, show (injN cs).toNat - xs.length * c.batch.toNat = 0 by omega]; rfl
    rw [s.regs.defers]
    refine (?_ : CTd Try.prog _ 53 B W _ _ [(15, .func (.func 63) #[] #[.pointer (some ⟨b4, 0, none⟩)]), (14, .agg #[.int .i64 c.workers, .int .i64 c.levels, .int .i64 c.classes, .int .i64 c.tasks, .int .i64 c.deque, .int .i64 c.heap, .int .i64 c.batch, .int .i64 c.age, .int .i64 c.patience, .slice l.pa c.progs.length l.pc, .slice l.sa c.subs.length l.sc, .int .i64 c.workers, .int .i64 c.levels, .int .i64 c.classes, .int .i64 c.tasks, .int .i64 c.deque, .int .i64 c.heap, .int .i64 ((laySlp c)), .int .i64 ((layEpo c)), .int .i64 ((layBit c)), .int .i64 ((layDeq c)), .int .i64 ((layTab c)), .slice CA cs.length cc]), (3, .pointer (some ⟨b3, 0, none⟩)), (2, .pointer (some ⟨b2, 0, none⟩)), (1, .pointer (some ⟨b1, 0, none⟩)), (0, .agg #[.int .i64 c.workers, .int .i64 c.levels, .int .i64 c.classes, .int .i64 c.tasks, .int .i64 c.deque, .int .i64 c.heap, .int .i64 c.batch, .int .i64 c.age, .int .i64 c.patience, .slice l.pa c.progs.length l.pc, .slice l.sa c.subs.length l.sc, .int .i64 c.workers, .int .i64 c.levels, .int .i64 c.classes, .int .i64 c.tasks, .int .i64 c.deque, .int .i64 c.heap, .int .i64 ((laySlp c)), .int .i64 ((layEpo c)), .int .i64 ((layBit c)), .int .i64 ((layDeq c)), .int .i64 ((layTab c)), .slice CA cs.length cc])] _) a u ((hu.ent (Ent.tail (Ent.tail ent_unfact))).st s.regs)
    refine ctd_seq ?_
    refine ctd_region ?_
    refine rtd_t (ot_store (o := 0) (i := 0) (k := 1) (us := [.int .i64 0]) (ws := [.int .i64 0]) (.tmp mem3) .const turn3 rfl (by kernel_rfl) rfl (by decide) rfl rfl (by simp) rfl) wants_none (fun _ => put_none) (fun _ => ?_)
    refine rtd_t (ot_store (o := 0) (i := 0) (k := 1) (us := [.bool false]) (ws := [.bool false]) (.tmp mem2) .const turn2 rfl (by kernel_rfl) rfl (by decide) rfl rfl (by simp) rfl) wants_none (fun _ => put_none) (fun _ => ?_)
    refine rtd_then ?_
    exact ctd_ret rfl (.cell mem3 mem2 (by kernel_rfl) rfl (.cell mem2 mem1 (by kernel_rfl) rfl .nil)) (fun w5 h => ⟨by rw [hnone]; rfl, cls_unfold (L := []) (((((h.ent Ent.drop).ent Ent.drop).ent Ent.drop).ent Ent.drop))⟩)
  · intro D pre u _ hu
    have hp0 := fact_of ((hu.ent Ent.drop).ent Ent.drop).2.2
    rw [s.regs.defers]
    exact stop_ret (R := [(15, .func (.func 63) #[] #[.pointer (some ⟨b4, 0, none⟩)]), (14, .agg #[.int .i64 c.workers, .int .i64 c.levels, .int .i64 c.classes, .int .i64 c.tasks, .int .i64 c.deque, .int .i64 c.heap, .int .i64 c.batch, .int .i64 c.age, .int .i64 c.patience, .slice l.pa c.progs.length l.pc, .slice l.sa c.subs.length l.sc, .int .i64 c.workers, .int .i64 c.levels, .int .i64 c.classes, .int .i64 c.tasks, .int .i64 c.deque, .int .i64 c.heap, .int .i64 ((laySlp c)), .int .i64 ((layEpo c)), .int .i64 ((layBit c)), .int .i64 ((layDeq c)), .int .i64 ((layTab c)), .slice CA cs.length cc]), (3, .pointer (some ⟨b3, 0, none⟩)), (2, .pointer (some ⟨b2, 0, none⟩)), (1, .pointer (some ⟨b1, 0, none⟩)), (0, .agg #[.int .i64 c.workers, .int .i64 c.levels, .int .i64 c.classes, .int .i64 c.tasks, .int .i64 c.deque, .int .i64 c.heap, .int .i64 c.batch, .int .i64 c.age, .int .i64 c.patience, .slice l.pa c.progs.length l.pc, .slice l.sa c.subs.length l.sc, .int .i64 c.workers, .int .i64 c.levels, .int .i64 c.classes, .int .i64 c.tasks, .int .i64 c.deque, .int .i64 c.heap, .int .i64 ((laySlp c)), .int .i64 ((layEpo c)), .int .i64 ((layBit c)), .int .i64 ((layDeq c)), .int .i64 ((layTab c)), .slice CA cs.length cc])]) rfl (.cell mem3 mem2 (by kernel_rfl) rfl (.cell mem2 mem1 (by kernel_rfl) rfl .nil)) (fun w5 h => ⟨by rw [hp0]; rfl, cls_unfold (L := []) (((((h.ent Ent.drop).ent Ent.drop).ent Ent.drop).ent Ent.drop))⟩) s.regs (hu.ent (Ent.tail (Ent.tail ent_unfact)))

end Go.Proofs.Ytkfkiaieeiodnaa
