/- Walks by program: the configuration of the desks. -/
import Derived.Test.YtkfkiaieeiodnaaSo20
namespace Go.Proofs.Ytkfkiaieeiodnaa
open Go Go.RowKit
theorem cfgS_eqs {C C' : Cfg} {l : CfgAt} (h1 : C.progs = C'.progs) (h2 : C.subs = C'.subs) (h : Hp) (s : cfgS C l h) : cfgS C' l h := fun w hw => (s w hw).eqs h1 h2
theorem pair_fst {B : Nat} {w : World} {C : Cfg} {l : CfgAt} {L : List SProp} (s : Sat B w L) (h : cfgS C l ∈ L) : CfgIn w w.heap.size C l := sat_held s h

set_option maxRecDepth 100000 in
theorem desks_spec (k : Int) {B : Nat} {W : World} : Fn_ Try.prog 9 #[.int .i64 k] B W [] (X := CfgAt) (fun l => cfgV (deskC k) l) (fun l => [cfgS (deskC k) l]) := by
  refine fn_enter Try.func9 rfl (m := 13) rfl (Nat.le_of_ble_eq_true rfl) (R := [(0, .int .i64 k)]) (by kernel_rfl) (fun F => ?_)
  refine ct_seq ?_
  refine ct_region ?_
  refine rt_t (ot_alloc (v := .agg #[.int .i64 0, .int .i64 0, .int .i64 0, .int .i64 0, .int .i64 0, .int .i64 0, .int .i64 0, .int .i64 0, .int .i64 0, .slice none 0 0, .slice none 0 0]) (us := [.int .i64 0, .int .i64 0, .int .i64 0, .int .i64 0, .int .i64 0, .int .i64 0, .int .i64 0, .int .i64 0, .int .i64 0, .slice none 0 0, .slice none 0 0]) (by kernel_rfl) rfl) wants_none (fun _ => (put_new (by kernel_rfl))) ?_
  rintro b1
  refine rt_nil ?_
  refine et_then ?_
  refine ct_seq ?_
  refine ct_region ?_
  refine rt_t (ot_config (bs := []) (.cons .const .nil) (fun _ _ => ⟨by simp, fun h => absurd rfl h⟩) (fun x => by simp [byt])) wants_none (fun _ => (put_new (by kernel_rfl))) ?_
  rintro l2
  refine rt_t (ot_alloc (v := .agg #[.int .i64 0, .int .i64 0, .int .i64 0, .int .i64 0, .int .i64 0, .int .i64 0, .int .i64 0, .int .i64 0, .int .i64 0, .slice none 0 0, .slice none 0 0]) (us := [.int .i64 0, .int .i64 0, .int .i64 0, .int .i64 0, .int .i64 0, .int .i64 0, .int .i64 0, .int .i64 0, .int .i64 0, .slice none 0 0, .slice none 0 0]) (by kernel_rfl) rfl) wants_none (fun _ => (put_new (by kernel_rfl))) ?_
  rintro b3
  refine rt_t (ot_store (o := 0) (i := 0) (k := 11) (us := [.int .i64 ((decode []).workers), .int .i64 ((decode []).levels), .int .i64 ((decode []).classes), .int .i64 ((decode []).tasks), .int .i64 ((decode []).deque), .int .i64 ((decode []).heap), .int .i64 ((decode []).batch), .int .i64 ((decode []).age), .int .i64 ((decode []).patience), .slice l2.pa ((decode []).progs.length) l2.pc, .slice l2.sa ((decode []).subs.length) l2.sc]) (ws := [.int .i64 ((decode []).workers), .int .i64 ((decode []).levels), .int .i64 ((decode []).classes), .int .i64 ((decode []).tasks), .int .i64 ((decode []).deque), .int .i64 ((decode []).heap), .int .i64 ((decode []).batch), .int .i64 ((decode []).age), .int .i64 ((decode []).patience), .slice l2.pa ((decode []).progs.length) l2.pc, .slice l2.sa ((decode []).subs.length) l2.sc]) (.tmp mem0) (.tmp mem1) turn0 (rfl) (by kernel_rfl) rfl (by decide) rfl rfl (by simp) rfl) wants_none (fun _ => put_none) (fun _ => ?_)
  refine rt_nil ?_
  refine et_then ?_
  refine ct_seq ?_
  refine ct_region ?_
  refine rt_q (op_move (.tmp mem3)).q wants_none (put_new (by kernel_rfl)) ?_
  refine rt_q (op_field (k := 0) (o' := 0) (.tmp mem1) (by kernel_rfl) (by rfl)).q wants_none (put_new (by kernel_rfl)) ?_
  refine rt_t (ot_store (o := 0) (i := 0) (k := 1) (us := [.int .i64 k]) (ws := [.int .i64 k, .int .i64 ((decode []).levels), .int .i64 ((decode []).classes), .int .i64 ((decode []).tasks), .int .i64 ((decode []).deque), .int .i64 ((decode []).heap), .int .i64 ((decode []).batch), .int .i64 ((decode []).age), .int .i64 ((decode []).patience), .slice l2.pa ((decode []).progs.length) l2.pc, .slice l2.sa ((decode []).subs.length) l2.sc]) (.tmp mem0) (.tmp mem1) turn0 (rfl) (by kernel_rfl) rfl (by decide) rfl rfl (by simp) rfl) wants_none (fun _ => put_none) (fun _ => ?_)
  refine rt_q (op_field (k := 1) (o' := 1) (.tmp mem2) (by kernel_rfl) (by rfl)).q wants_none (put_new (by kernel_rfl)) ?_
  refine rt_t (ot_store (o := 0) (i := 1) (k := 1) (us := [.int .i64 2]) (ws := [.int .i64 k, .int .i64 2, .int .i64 ((decode []).classes), .int .i64 ((decode []).tasks), .int .i64 ((decode []).deque), .int .i64 ((decode []).heap), .int .i64 ((decode []).batch), .int .i64 ((decode []).age), .int .i64 ((decode []).patience), .slice l2.pa ((decode []).progs.length) l2.pc, .slice l2.sa ((decode []).subs.length) l2.sc]) (.tmp mem0) .const turn0 (rfl) (by kernel_rfl) rfl (by decide) rfl rfl (by simp) rfl) wants_none (fun _ => put_none) (fun _ => ?_)
  refine rt_q (op_field (k := 3) (o' := 3) (.tmp mem3) (by kernel_rfl) (by rfl)).q wants_none (put_new (by kernel_rfl)) ?_
  refine rt_t (ot_store (o := 0) (i := 3) (k := 1) (us := [.int .i64 6]) (ws := [.int .i64 k, .int .i64 2, .int .i64 ((decode []).classes), .int .i64 6, .int .i64 ((decode []).deque), .int .i64 ((decode []).heap), .int .i64 ((decode []).batch), .int .i64 ((decode []).age), .int .i64 ((decode []).patience), .slice l2.pa ((decode []).progs.length) l2.pc, .slice l2.sa ((decode []).subs.length) l2.sc]) (.tmp mem0) .const turn0 (rfl) (by kernel_rfl) rfl (by decide) rfl rfl (by simp) rfl) wants_none (fun _ => put_none) (fun _ => ?_)
  refine rt_q (op_field (k := 4) (o' := 4) (.tmp mem4) (by kernel_rfl) (by rfl)).q wants_none (put_new (by kernel_rfl)) ?_
  refine rt_t (ot_store (o := 0) (i := 4) (k := 1) (us := [.int .i64 4]) (ws := [.int .i64 k, .int .i64 2, .int .i64 ((decode []).classes), .int .i64 6, .int .i64 4, .int .i64 ((decode []).heap), .int .i64 ((decode []).batch), .int .i64 ((decode []).age), .int .i64 ((decode []).patience), .slice l2.pa ((decode []).progs.length) l2.pc, .slice l2.sa ((decode []).subs.length) l2.sc]) (.tmp mem0) .const turn0 (rfl) (by kernel_rfl) rfl (by decide) rfl rfl (by simp) rfl) wants_none (fun _ => put_none) (fun _ => ?_)
  refine rt_q (op_field (k := 5) (o' := 5) (.tmp mem5) (by kernel_rfl) (by rfl)).q wants_none (put_new (by kernel_rfl)) ?_
  refine rt_t (ot_store (o := 0) (i := 5) (k := 1) (us := [.int .i64 4]) (ws := [.int .i64 k, .int .i64 2, .int .i64 ((decode []).classes), .int .i64 6, .int .i64 4, .int .i64 4, .int .i64 ((decode []).batch), .int .i64 ((decode []).age), .int .i64 ((decode []).patience), .slice l2.pa ((decode []).progs.length) l2.pc, .slice l2.sa ((decode []).subs.length) l2.sc]) (.tmp mem0) .const turn0 (rfl) (by kernel_rfl) rfl (by decide) rfl rfl (by simp) rfl) wants_none (fun _ => put_none) (fun _ => ?_)
  refine rt_q (op_field (k := 6) (o' := 6) (.tmp mem6) (by kernel_rfl) (by rfl)).q wants_none (put_new (by kernel_rfl)) ?_
  refine rt_t (ot_store (o := 0) (i := 6) (k := 1) (us := [.int .i64 2]) (ws := [.int .i64 k, .int .i64 2, .int .i64 ((decode []).classes), .int .i64 6, .int .i64 4, .int .i64 4, .int .i64 2, .int .i64 ((decode []).age), .int .i64 ((decode []).patience), .slice l2.pa ((decode []).progs.length) l2.pc, .slice l2.sa ((decode []).subs.length) l2.sc]) (.tmp mem0) .const turn0 (rfl) (by kernel_rfl) rfl (by decide) rfl rfl (by simp) rfl) wants_none (fun _ => put_none) (fun _ => ?_)
  refine rt_nil ?_
  refine et_then ?_
  refine ct_seq ?_
  refine ct_region ?_
  refine rt_q (oq_loadA (o := 0) (i := 0) (k := 11) (us := [.int .i64 k, .int .i64 2, .int .i64 ((decode []).classes), .int .i64 6, .int .i64 4, .int .i64 4, .int .i64 2, .int .i64 ((decode []).age), .int .i64 ((decode []).patience), .slice l2.pa ((decode []).progs.length) l2.pc, .slice l2.sa ((decode []).subs.length) l2.sc]) (.tmp mem7) mem0 (rfl) (by kernel_rfl) rfl rfl) wants_none (put_new (by kernel_rfl)) ?_
  refine rt_t (ot_store (o := 0) (i := 0) (k := 11) (us := [.int .i64 k, .int .i64 2, .int .i64 ((decode []).classes), .int .i64 6, .int .i64 4, .int .i64 4, .int .i64 2, .int .i64 ((decode []).age), .int .i64 ((decode []).patience), .slice l2.pa ((decode []).progs.length) l2.pc, .slice l2.sa ((decode []).subs.length) l2.sc]) (ws := [.int .i64 k, .int .i64 2, .int .i64 ((decode []).classes), .int .i64 6, .int .i64 4, .int .i64 4, .int .i64 2, .int .i64 ((decode []).age), .int .i64 ((decode []).patience), .slice l2.pa ((decode []).progs.length) l2.pc, .slice l2.sa ((decode []).subs.length) l2.sc]) (.tmp mem10) (.tmp mem0) turn2 (rfl) (by kernel_rfl) rfl (by decide) rfl rfl (by simp) rfl) wants_none (fun _ => put_none) (fun _ => ?_)
  refine rt_nil ?_
  refine et_then ?_
  refine ct_ret ?_
  exact et_fn l2 rfl (.cellA (m := 11) (ws := [.int .i64 k, .int .i64 2, .int .i64 ((decode []).classes), .int .i64 6, .int .i64 4, .int .i64 4, .int .i64 2, .int .i64 ((decode []).age), .int .i64 ((decode []).patience), .slice l2.pa ((decode []).progs.length) l2.pc, .slice l2.sa ((decode []).subs.length) l2.sc]) mem10 mem2 (by kernel_rfl) rfl rfl .nil) rfl (Ent.drop.trans (Ent.cons (cfgS_eqs rfl rfl) Ent.drop))

end Go.Proofs.Ytkfkiaieeiodnaa
