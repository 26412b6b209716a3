/- Walks by program: what is stolen, and the entries of a worker. -/
import Derived.Test.YtkfkiaieeiodnaaSo13
namespace Go.Proofs.Ytkfkiaieeiodnaa
open Go Go.RowKit
def bmAt (c : Cfg) (cs : List Int) (i v : Nat) : Int := if v < i ∧ 0 ≤ (bestV c cs (v : Int)).2 then ((2 ^ (bestV c cs (v : Int)).2.toNat : Nat) : Int) else 0
def bmV (c : Cfg) (cs : List Int) (i : Nat) : List Int := (List.range c.workers.toNat).map (bmAt c cs i)
theorem bmV_len {c : Cfg} {cs : List Int} {i : Nat} : (bmV c cs i).length = c.workers.toNat := by simp [bmV]
theorem bmV_0 {c : Cfg} {cs : List Int} : bmV c cs 0 = List.replicate c.workers.toNat 0 := by
  apply List.ext_getElem?
  intro j
  unfold bmV
  rw [List.getElem?_map, List.getElem?_replicate]
  by_cases hj : j < c.workers.toNat
  · rw [List.getElem?_range hj, if_pos hj]; simp [bmAt]
  · rw [List.getElem?_eq_none (by simp; omega), if_neg hj]; rfl
theorem bmV_no {c : Cfg} {cs : List Int} {i : Nat} (h : ¬ 0 ≤ (bestV c cs (i : Int)).2) : bmV c cs i = bmV c cs (i + 1) := by
  unfold bmV
  refine List.map_congr_left fun v _ => ?_
  unfold bmAt
  by_cases hv : v = i
  · subst hv; rw [if_neg (by omega), if_neg (by omega)]
  · by_cases h1 : v < i ∧ 0 ≤ (bestV c cs (v : Int)).2
    · rw [if_pos h1, if_pos ⟨by omega, h1.2⟩]
    · rw [if_neg h1, if_neg (by omega)]
theorem bmV_yes {c : Cfg} {cs : List Int} {i : Nat} (hi : i < c.workers.toNat) (h : 0 ≤ (bestV c cs (i : Int)).2) : (bmV c cs i).set i ((2 ^ (bestV c cs (i : Int)).2.toNat : Nat) : Int) = bmV c cs (i + 1) := by
  apply List.ext_getElem?
  intro j
  rw [List.getElem?_set]
  by_cases hj : i = j
  · subst hj
    rw [if_pos rfl, bmV_len, if_pos hi]
    unfold bmV
    rw [List.getElem?_map, List.getElem?_range hi]
    simp only [Option.map_some, bmAt]; rw [if_pos ⟨by omega, h⟩]
  · rw [if_neg hj]
    unfold bmV
    rw [List.getElem?_map, List.getElem?_map]
    by_cases hr : j < c.workers.toNat
    · rw [List.getElem?_range hr]
      simp only [Option.map_some, bmAt]
      congr 1
      by_cases h1 : j < i ∧ 0 ≤ (bestV c cs (j : Int)).2
      · rw [if_pos h1, if_pos ⟨by omega, h1.2⟩]
      · rw [if_neg h1, if_neg (by omega)]
    · rw [List.getElem?_eq_none (by simp; omega)]; rfl
theorem lenV_pow (k : Nat) : lenV ((2 ^ k : Nat) : Int) = k + 1 := by
  unfold lenV; rw [Int.toNat_natCast, bl_pow]; omega
theorem bm_lvl {c : Cfg} {cs : List Int} (hl : 1 ≤ c.levels) {v : Int} (h : 0 ≤ v ∧ v < c.workers) : lenV (gi (bmV c cs c.workers.toNat) v.toNat) - 1 = (bestV c cs v).2 := by
  have hg : gi (bmV c cs c.workers.toNat) v.toNat = bmAt c cs c.workers.toNat v.toNat := by
    unfold gi bmV
    simp [List.getD_eq_getElem?_getD, show v.toNat < c.workers.toNat by omega]
  rw [hg]
  unfold bmAt
  rw [show ((v.toNat : Nat) : Int) = v by omega]
  by_cases hb : 0 ≤ (bestV c cs v).2
  · rw [if_pos ⟨by omega, hb⟩, lenV_pow]; omega
  · rw [if_neg (by omega), (best_none hl hb).2]
    simp [lenV, bl]
theorem ch_steal {c : Cfg} {cs : List Int} (hw : 1 ≤ c.workers) (hl : 1 ≤ c.levels) {d w : Int} : ∀ i, chFrom (bmV c cs c.workers.toNat) w d i = stealFrom c cs d w i
  | 0 => rfl
  | i + 1 => by
    have hlen : ((bmV c cs c.workers.toNat).length : Int) = c.workers := by rw [bmV_len]; omega
    have hr := drawM_rng (d := d) (n := c.workers) hw
    rw [chFrom, stealFrom, ch_steal hw hl i, hlen]
    rw [bm_lvl hl ⟨Int.emod_nonneg _ (by omega), Int.emod_lt_of_pos _ (by omega)⟩]
theorem bm_wf {c : Cfg} {cs : List Int} (hl : 1 ≤ c.levels ∧ c.levels ≤ 64) (i : Nat) : CWf (bmV c cs i) := fun j => by
  unfold gi bmV
  rw [List.getD_eq_getElem?_getD, List.getElem?_map]
  by_cases hj : j < c.workers.toNat
  · rw [List.getElem?_range hj]
    simp only [Option.map_some, Option.getD_some, bmAt]
    split
    · rename_i h
      have hb := best_bd c cs (j : Int) hl
      have : (2 : Nat) ^ (bestV c cs (j : Int)).2.toNat ≤ 2 ^ 63 := Nat.pow_le_pow_right (by omega) (by omega)
      exact ⟨Int.natCast_nonneg _, Int.le_trans (Int.ofNat_le.2 this) (by decide)⟩
    · omega
  · rw [List.getElem?_eq_none (by simp; omega)]; simp
theorem bitI_spec (v : Int) (h0 : 0 ≤ v) (h1 : v ≤ 63) (B : Nat) (W : World) (L : List SProp) : Pure Try.prog 48 #[.int .i64 v] B W L (.int .u64 ((2 ^ v.toNat : Nat) : Int)) := by
  have h := bit_spec v.toNat (by omega) B W L
  rwa [show ((v.toNat : Nat) : Int) = v by omega] at h
theorem choose_at (A : Option Addr) (cap n : Nat) (bs : List Int) (hn : bs.length = n) (sf st : Int) (hwf : CWf bs) (hlen : bs.length ≤ 16) {B : Nat} {W : World} (hS : Sl encU 1 W B A bs) (L : List SProp) : Pure Try.prog 49 #[.slice A n cap, .int .i64 sf, .int .i64 st] B W L (.tuple #[.int .i64 (chFrom bs sf st n).1, .int .i64 (chFrom bs sf st n).2]) := by
  subst hn; exact choose_spec A cap bs sf st hwf hlen hS L
def stolenV (c : Cfg) (cs : List Int) (d w : Int) : Option Int := if (stealFrom c cs d w c.workers.toNat).1 < 0 then none else some (stT c cs d w c.workers.toNat)
theorem row_zero {c : Cfg} {cs : List Int} {b : Nat} (hw : c.workers ≤ 16) (h : Hp) (p : pts b 0 (List.replicate c.workers.toNat (Value.int .u64 0)) h) : rowS (some ⟨b, 0, none⟩) c.workers.toNat c.workers.toNat 1 ((bmV c cs 0).map (Value.int .u64)) h :=
  rowS_of_pts (by rw [List.length_map, bmV_len]; omega) (by unfold maxLen; omega) h (by rw [bmV_0]; simpa using p)
theorem Ent.drop2 {A X : SProp} {L : List SProp} : Ent (A :: X :: L) (A :: L) := Ent.cons (fun _ h => h) Ent.drop
theorem Ent.swap2 {A X : SProp} {L : List SProp} : Ent (A :: X :: L) (X :: A :: L) := Ent.perm (List.Perm.swap ..)

set_option maxRecDepth 100000 in
theorem stolen_spec (c : Cfg) (l : CfgAt) (CA : Option Addr) (cc : Nat) (cs : List Int) (hn : CNums c) (hl : (cs.length : Int) = layCells c) (w d : Int) {B : Nat} {W : World} (hS : Sl encU 1 W B CA cs) (hcw : CWf cs) (L : List SProp) : Pure Try.prog 31 #[.agg #[.int .i64 c.workers, .int .i64 c.levels, .int .i64 c.classes, .int .i64 c.tasks, .int .i64 c.deque, .int .i64 c.heap, .int .i64 c.batch, .int .i64 c.age, .int .i64 c.patience, .slice l.pa c.progs.length l.pc, .slice l.sa c.subs.length l.sc, .int .i64 c.workers, .int .i64 c.levels, .int .i64 c.classes, .int .i64 c.tasks, .int .i64 c.deque, .int .i64 c.heap, .int .i64 ((laySlp c)), .int .i64 ((layEpo c)), .int .i64 ((layBit c)), .int .i64 ((layDeq c)), .int .i64 ((layTab c)), .slice CA cs.length cc], .int .i64 w, .int .i64 d] B W L (.tuple #[.int .i64 ((stolenV c cs d w).getD 0), .bool (stolenV c cs d w).isSome]) := by
  have hd := hn.d
  have hlv := hn.l
  have hww := hn.w
  have htt := hn.t
  refine pure_enter Try.func31 rfl (m := 57) rfl (Nat.le_of_ble_eq_true rfl) (R := [(0, .agg #[.int .i64 c.workers, .int .i64 c.levels, .int .i64 c.classes, .int .i64 c.tasks, .int .i64 c.deque, .int .i64 c.heap, .int .i64 c.batch, .int .i64 c.age, .int .i64 c.patience, .slice l.pa c.progs.length l.pc, .slice l.sa c.subs.length l.sc, .int .i64 c.workers, .int .i64 c.levels, .int .i64 c.classes, .int .i64 c.tasks, .int .i64 c.deque, .int .i64 c.heap, .int .i64 ((laySlp c)), .int .i64 ((layEpo c)), .int .i64 ((layBit c)), .int .i64 ((layDeq c)), .int .i64 ((layTab c)), .slice CA cs.length cc]), (1, .int .i64 w), (2, .int .i64 d)]) (by kernel_rfl) ?_
  refine ct_seq ?_
  refine ct_region ?_
  refine rt_t (ot_box (.tmp mem0) (us := [.int .i64 c.workers, .int .i64 c.levels, .int .i64 c.classes, .int .i64 c.tasks, .int .i64 c.deque, .int .i64 c.heap, .int .i64 c.batch, .int .i64 c.age, .int .i64 c.patience, .slice l.pa c.progs.length l.pc, .slice l.sa c.subs.length l.sc, .int .i64 c.workers, .int .i64 c.levels, .int .i64 c.classes, .int .i64 c.tasks, .int .i64 c.deque, .int .i64 c.heap, .int .i64 ((laySlp c)), .int .i64 ((layEpo c)), .int .i64 ((layBit c)), .int .i64 ((layDeq c)), .int .i64 ((layTab c)), .slice CA cs.length cc]) rfl) wants_none (fun _ => (put_new (by kernel_rfl))) ?_
  rintro b1
  refine rt_q (op_assign .const).q wants_none (put_new (by kernel_rfl)) ?_
  refine rt_q (op_assign .const).q wants_none (put_new (by kernel_rfl)) ?_
  refine rt_nil ?_
  refine et_then ?_
  refine ct_seq ?_
  refine ct_region ?_
  refine rt_q (op_field (k := 0) (o' := 0) (.tmp mem2) (by kernel_rfl) (by rfl)).q wants_none (put_new (by kernel_rfl)) ?_
  refine rt_q (op_field (k := 0) (o' := 0) (.tmp mem0) (by kernel_rfl) (by rfl)).q wants_none (put_new (by kernel_rfl)) ?_
  refine rt_q (oq_load (o := 0) (i := 0) (.tmp mem0) mem0 (rfl) rfl (by kernel_rfl)) wants_none (put_new (by kernel_rfl)) ?_
  refine rt_t (ot_make (E := 33) (z := .int .u64 0) (by_ := 8) (.tmp mem0) (.tmp mem0) Try.underlying26 (infoB_of (by kernel_rfl)) rfl (by omega) (by omega) (by decide)) wants_none (fun _ => (put_new (by kernel_rfl))) ?_
  rintro b2
  refine rt_q (op_assign (.tmp mem0)).q wants_none (put_new (by kernel_rfl)) ?_
  refine rt_nil ?_
  refine et_then ?_
  refine ct_seq ?_
  refine ct_seq ?_
  refine ct_region ?_
  refine rt_q (op_move (.tmp mem0)).q wants_none (put_new (by kernel_rfl)) ?_
  refine rt_q (op_len (.tmp mem0) Try.underlying26).q wants_none (put_new (by kernel_rfl)) ?_
  refine rt_q (op_move .const).q wants_none (put_new (by kernel_rfl)) ?_
  refine rt_nil ?_
  refine et_then ?_
  refine ct_block ?_
  refine ct_ent (Ent.cons (row_zero (cs := cs) (by omega)) Ent.refl) ?_
  refine ct_loop (X := Nat) (fun i => c.workers.toNat - i) (fun i => i ≤ c.workers.toNat) (fun i => [(22, .int .i64 ((i : Int))), (21, .int .i64 ((((c.workers).toNat : Nat) : Int))), (8, .slice (some ⟨b2, 0, none⟩) c.workers.toNat c.workers.toNat), (7, .bool false), (6, .int .i64 0), (3, .pointer (some ⟨b1, 0, none⟩)), (1, .int .i64 w), (2, .int .i64 d)]) (fun i => rowS ((some ⟨b2, 0, none⟩)) c.workers.toNat c.workers.toNat 1 ((bmV c cs i).map (Value.int .u64)) :: pts b1 0 [.int .i64 c.workers, .int .i64 c.levels, .int .i64 c.classes, .int .i64 c.tasks, .int .i64 c.deque, .int .i64 c.heap, .int .i64 c.batch, .int .i64 c.age, .int .i64 c.patience, .slice l.pa c.progs.length l.pc, .slice l.sa c.subs.length l.sc, .int .i64 c.workers, .int .i64 c.levels, .int .i64 c.classes, .int .i64 c.tasks, .int .i64 c.deque, .int .i64 c.heap, .int .i64 ((laySlp c)), .int .i64 ((layEpo c)), .int .i64 ((layBit c)), .int .i64 ((layDeq c)), .int .i64 ((layTab c)), .slice CA cs.length cc] :: L) 0 (by omega) (.cons mem0 (congrArg (Value.int .i64) (by first | rfl | omega | (simp; omega) | simp)) (.cons mem1 rfl (.cons mem3 rfl (.cons mem8 rfl (.cons mem9 rfl (.cons mem10 rfl (.cons mem12 rfl (.cons mem13 rfl .nil)))))))) (Ent.refl) (fun i hi3 => ?_)
  have hi0 := hi3
  have hbml := bmV_len (c := c) (cs := cs) (i := i)
  refine ct_seq ?_
  refine ct_region ?_
  refine rt_q (op_lss (.tmp mem0) (.tmp mem1)).q wants_none (put_new (by kernel_rfl)) ?_
  refine rt_nil ?_
  refine et_then ?_
  refine ct_seq ?_
  refine ct_if (.tmp mem0) (fun h4 => ?_) (fun h4 => ?_)
  · refine ct_skip ?_
    refine et_then ?_
    refine ct_seq ?_
    refine ct_block ?_
    refine ct_seq ?_
    refine ct_region ?_
    refine rt_q (op_move (.tmp mem1)).q wants_none (put_new (by kernel_rfl)) ?_
    refine rt_q (op_assign (.tmp mem0)).q wants_none (put_new (by kernel_rfl)) ?_
    refine rt_nil ?_
    refine et_then ?_
    refine ct_seq ?_
    refine ct_region ?_
    refine rt_q (oq_loadA (o := 0) (i := 0) (k := 23) (us := [.int .i64 c.workers, .int .i64 c.levels, .int .i64 c.classes, .int .i64 c.tasks, .int .i64 c.deque, .int .i64 c.heap, .int .i64 c.batch, .int .i64 c.age, .int .i64 c.patience, .slice l.pa c.progs.length l.pc, .slice l.sa c.subs.length l.sc, .int .i64 c.workers, .int .i64 c.levels, .int .i64 c.classes, .int .i64 c.tasks, .int .i64 c.deque, .int .i64 c.heap, .int .i64 ((laySlp c)), .int .i64 ((layEpo c)), .int .i64 ((layBit c)), .int .i64 ((layDeq c)), .int .i64 ((layTab c)), .slice CA cs.length cc]) (.tmp mem8) mem1 (rfl) (by kernel_rfl) rfl rfl) wants_none (put_new (by kernel_rfl)) ?_
    refine rt_q (op_move (.tmp mem1)).q wants_none (put_new (by kernel_rfl)) ?_
    have hbv := best_bd c cs ((i : Int)) hlv
    have hbvl := best_len c cs ((i : Int)) hd.2
    refine rt_t (ot_call0 (by kernel_rfl) (.cons (.tmp mem1) (.cons (.tmp mem0) .nil)) (best_spec c l CA cc cs hn hl _ (by omega) hS hcw) .nil) wants_none (fun _ => (put_new (by kernel_rfl))) ?_
    rintro ⟨A5, c5⟩
    refine rt_q (op_move (.tmp mem0)).q wants_none (put_new (by kernel_rfl)) ?_
    refine rt_q (op_extract (.tmp mem0) rfl).q wants_none (put_new (by kernel_rfl)) ?_
    refine rt_q (op_extract (.tmp mem1) rfl).q wants_none (put_new (by kernel_rfl)) ?_
    refine rt_q (op_assign (.tmp mem1)).q wants_none (put_new (by kernel_rfl)) ?_
    refine rt_q (op_assign (.tmp mem1)).q wants_none (put_new (by kernel_rfl)) ?_
    refine rt_nil ?_
    refine et_then ?_
    refine ct_seq ?_
    refine ct_region ?_
    refine rt_q (op_move (.tmp mem0)).q wants_none (put_new (by kernel_rfl)) ?_
    refine rt_q (op_geq (.tmp mem0) .const).q wants_none (put_new (by kernel_rfl)) ?_
    refine rt_nil ?_
    refine et_then ?_
    refine ct_if (.tmp mem0) (fun h6 => ?_) (fun h6 => ?_)
    · refine ct_region ?_
      refine rt_q (op_move (.tmp mem15)).q wants_none (put_new (by kernel_rfl)) ?_
      refine rt_q (op_move (.tmp mem11)).q wants_none (put_new (by kernel_rfl)) ?_
      refine rt_q (op_move (.tmp mem4)).q wants_none (put_new (by kernel_rfl)) ?_
      refine rt_q (oq_call0 (by kernel_rfl) (.cons (.tmp mem0) .nil) (bitI_spec _ (by omega) (by omega) B W _)) wants_none (put_new (by kernel_rfl)) ?_
      refine rt_q (oq_indexS (i := i) (.tmp mem3) (.tmp mem2) mem1 (by omega) (by omega) (by omega) (by kernel_rfl) (Nat.mul_one _)) wants_none (put_new (by kernel_rfl)) ?_
      refine rt_ent (Ent.swap2 : Ent _ (rowS ((some ⟨b2, 0, none⟩)) c.workers.toNat c.workers.toNat 1 ((bmV c cs i).map (Value.int .u64)) :: _)) ?_
      refine rt_t (ot_storeS (i := i) (.tmp mem0) (.tmp mem1) turn0 (by simp [insAt_len, sortV_len]; first | omega | skip) (by kernel_rfl) rfl) wants_none (fun _ => put_none) (fun _ => ?_)
      refine rt_ent ent_set ?_
      refine rt_nil ?_
      refine et_block ?_
      refine et_then ?_
      refine ct_region ?_
      refine rt_q (op_add (.tmp mem18) .const (w64 (by omega) (by omega))).q wants_none (put_new (by kernel_rfl)) ?_
      refine rt_q (op_move (.tmp mem0)).q wants_none (put_over pick19 (by kernel_rfl)) ?_
      refine rt_nil ?_
      exact et_again (n := 57) ((i + 1)) (by omega) (by omega) (.cons mem0 (congrArg (Value.int .i64) (by first | rfl | omega | (simp; omega) | simp)) (.cons (memU mem0) rfl (.cons (memU mem1) rfl (.cons (memU mem2) rfl (.cons (memU mem3) rfl (.cons (memU mem4) rfl (.cons (memU mem5) rfl (.cons (memU mem6) rfl .nil)))))))) ((Ent.trans (ent_rowd (bmV_yes (by omega) (by omega)) rfl Ent.refl) (Ent.drop2)))
    · refine ct_skip ?_
      refine et_block ?_
      refine et_then ?_
      refine ct_region ?_
      refine rt_q (op_add (.tmp mem13) .const (w64 (by omega) (by omega))).q wants_none (put_new (by kernel_rfl)) ?_
      refine rt_q (op_move (.tmp mem0)).q wants_none (put_over pick14 (by kernel_rfl)) ?_
      refine rt_nil ?_
      exact et_again (n := 57) ((i + 1)) (by omega) (by omega) (.cons mem0 (congrArg (Value.int .i64) (by first | rfl | omega | (simp; omega) | simp)) (.cons mem15 rfl (.cons mem16 rfl (.cons mem17 rfl (.cons mem18 rfl (.cons mem19 rfl (.cons (memU mem0) rfl (.cons (memU mem1) rfl .nil)))))))) ((Ent.trans Ent.drop (ent_rowd (bmV_no (by omega)) rfl Ent.refl)))
  · refine ct_exit ?_
    refine et_then_exit ?_
    refine et_then_exit ?_
    refine et_block_here ?_
    refine et_then ?_
    refine ct_seq ?_
    refine ct_region ?_
    refine rt_q (op_move (.tmp mem3)).q wants_none (put_new (by kernel_rfl)) ?_
    refine rt_q (op_move (.tmp mem8)).q wants_none (put_new (by kernel_rfl)) ?_
    refine rt_q (op_move (.tmp mem10)).q wants_none (put_new (by kernel_rfl)) ?_
    obtain rfl : i = c.workers.toNat := by omega
    have hch := ch_steal (c := c) (cs := cs) hww.1 hlv.1 (d := d) (w := w) c.workers.toNat
    refine rt_q (v := .tuple #[.int .i64 ((stealFrom c cs d w c.workers.toNat).1), .int .i64 ((stealFrom c cs d w c.workers.toNat).2)]) (oq_call0 (by kernel_rfl) (.cons (.tmp mem2) (.cons (.tmp mem1) (.cons (.tmp mem0) .nil))) (pure_rekeep fun w0 hw0 => by rw [← hch]; exact choose_at _ _ _ _ bmV_len _ _ (bm_wf hlv _) (by rw [bmV_len]; omega) (sl_ints (fun _ => rfl) mem0 hw0.2.2 bmV_len (by rw [bmV_len]; omega)) _)) wants_none (put_new (by kernel_rfl)) ?_
    refine rt_q (op_move (.tmp mem0)).q wants_none (put_new (by kernel_rfl)) ?_
    refine rt_q (op_extract (.tmp mem0) rfl).q wants_none (put_new (by kernel_rfl)) ?_
    refine rt_q (op_extract (.tmp mem1) rfl).q wants_none (put_new (by kernel_rfl)) ?_
    refine rt_q (op_assign (.tmp mem1)).q wants_none (put_new (by kernel_rfl)) ?_
    refine rt_q (op_assign (.tmp mem1)).q wants_none (put_new (by kernel_rfl)) ?_
    refine rt_nil ?_
    refine et_then ?_
    refine ct_seq ?_
    refine ct_seq ?_
    refine ct_region ?_
    refine rt_q (op_move (.tmp mem1)).q wants_none (put_new (by kernel_rfl)) ?_
    refine rt_q (op_lss (.tmp mem0) .const).q wants_none (put_new (by kernel_rfl)) ?_
    refine rt_nil ?_
    refine et_then ?_
    refine ct_if (.tmp mem0) (fun h7 => ?_) (fun h7 => ?_)
    · refine ct_seq ?_
      refine ct_region ?_
      refine rt_q (op_assign .const).q wants_none (put_over pick16 (by kernel_rfl)) ?_
      refine rt_q (op_assign .const).q wants_none (put_over pick16 (by kernel_rfl)) ?_
      refine rt_nil ?_
      refine et_then ?_
      refine ct_ret ?_
      refine et_then_ret ?_
      exact et_ret rfl (.cons mem1 (.cons mem0 .nil)) (by simp only [tupled, stolenV]; rw [if_pos (by omega)]; rfl) (Ent.drop.trans Ent.drop)
    · refine ct_skip ?_
      refine et_then ?_
      refine ct_seq ?_
      refine ct_region ?_
      refine rt_q (oq_loadA (o := 0) (i := 0) (k := 23) (us := [.int .i64 c.workers, .int .i64 c.levels, .int .i64 c.classes, .int .i64 c.tasks, .int .i64 c.deque, .int .i64 c.heap, .int .i64 c.batch, .int .i64 c.age, .int .i64 c.patience, .slice l.pa c.progs.length l.pc, .slice l.sa c.subs.length l.sc, .int .i64 c.workers, .int .i64 c.levels, .int .i64 c.classes, .int .i64 c.tasks, .int .i64 c.deque, .int .i64 c.heap, .int .i64 ((laySlp c)), .int .i64 ((layEpo c)), .int .i64 ((layBit c)), .int .i64 ((layDeq c)), .int .i64 ((layTab c)), .slice CA cs.length cc]) (.tmp mem17) mem1 (rfl) (by kernel_rfl) rfl rfl) wants_none (put_new (by kernel_rfl)) ?_
      refine rt_q (op_move (.tmp mem4)).q wants_none (put_new (by kernel_rfl)) ?_
      have hsa := (steal_at (cs := cs) (d := d) (w := w) hww.1 hlv.1 c.workers.toNat).resolve_left (by omega)
      have hbs := best_some (c := c) (cs := cs) (w := ((stealFrom c cs d w c.workers.toNat).1)) hlv.1 (by omega)
      have hbv := best_bd c cs ((stealFrom c cs d w c.workers.toNat).1) hlv
      have hbvl := best_len c cs ((stealFrom c cs d w c.workers.toNat).1) hd.2
      refine rt_t (ot_call0 (by kernel_rfl) (.cons (.tmp mem1) (.cons (.tmp mem0) .nil)) (best_spec c l CA cc cs hn hl _ (by omega) hS hcw) .nil) wants_none (fun _ => (put_new (by kernel_rfl))) ?_
      rintro ⟨A8, c8⟩
      refine rt_q (op_move (.tmp mem0)).q wants_none (put_new (by kernel_rfl)) ?_
      refine rt_q (op_extract (.tmp mem0) rfl).q wants_none (put_new (by kernel_rfl)) ?_
      refine rt_q (op_extract (.tmp mem1) rfl).q wants_none (put_new (by kernel_rfl)) ?_
      refine rt_q (op_assign (.tmp mem1)).q wants_none (put_new (by kernel_rfl)) ?_
      refine rt_q (op_assign (.tmp mem1)).q wants_none (put_new (by kernel_rfl)) ?_
      refine rt_nil ?_
      refine et_then ?_
      refine ct_seq ?_
      refine ct_region ?_
      refine rt_q (op_move (.tmp mem1)).q wants_none (put_new (by kernel_rfl)) ?_
      refine rt_q (oq_indexS (i := 0) (.tmp mem0) .const mem0 (by omega) (by omega) (by omega) (by kernel_rfl) (Nat.mul_one _)) wants_none (put_new (by kernel_rfl)) ?_
      refine rt_q (oq_loadS (i := 0) (.tmp mem0) mem0 (gi_map (by first | omega | (simp; omega))) (by kernel_rfl)) wants_none (put_new (by kernel_rfl)) ?_
      refine rt_q (op_assign (.tmp mem0)).q wants_none (put_over (pickU pick7) (by kernel_rfl)) ?_
      refine rt_q (op_assign .const).q wants_none (put_over (pickU pick7) (by kernel_rfl)) ?_
      refine rt_nil ?_
      refine et_then ?_
      refine ct_ret ?_
      exact et_ret rfl (.cons mem1 (.cons mem0 .nil)) (by simp only [tupled, stolenV, stT]; rw [if_neg (by omega), if_neg (by omega)]; rfl) (Ent.drop.trans (Ent.drop.trans Ent.drop))

end Go.Proofs.Ytkfkiaieeiodnaa
