/- Walks by program: the length of a word, the choice of a victim. -/
import Derived.Test.YtkfkiaieeiodnaaSo3
namespace Go.Proofs.Ytkfkiaieeiodnaa
open Go Go.RowKit
/-- How many binary digits. -/
def bl (m : Nat) : Nat := if m = 0 then 0 else m.log2 + 1
theorem bl_div {m k : Nat} (h : 2 ^ k ≤ m) : bl (m / 2 ^ k) + k = bl m := by
  have hp := Nat.two_pow_pos k
  have h0 : m ≠ 0 := by omega
  have h1 : m / 2 ^ k ≠ 0 := by have := Nat.div_pos h hp; omega
  unfold bl
  rw [if_neg h0, if_neg h1]
  have a1 := Nat.log2_self_le h1
  have a2 := Nat.lt_log2_self (n := m / 2 ^ k)
  have e : m.log2 = (m / 2 ^ k).log2 + k := by
    refine (Nat.log2_eq_iff h0).2 ⟨?_, ?_⟩
    · rw [Nat.pow_add]; exact Nat.le_trans (Nat.mul_le_mul_right _ a1) (Nat.div_mul_le_self m _)
    · rw [show (m / 2 ^ k).log2 + k + 1 = (m / 2 ^ k).log2 + 1 + k by omega, Nat.pow_add]
      exact (Nat.div_lt_iff_lt_mul hp).1 a2
  omega
theorem bl_pow (k : Nat) : bl (2 ^ k) = k + 1 := by
  unfold bl
  rw [if_neg (by have := Nat.two_pow_pos k; omega), Nat.log2_two_pow]
def lenV (x : Int) : Int := (bl x.toNat : Int)
theorem lenV_div {x : Int} (k : Nat) (h0 : 0 ≤ x) (h : ((2 ^ k : Nat) : Int) ≤ x) : lenV (x / ((2 ^ k : Nat) : Int)) + k = lenV x := by
  obtain ⟨m, rfl⟩ := Int.eq_ofNat_of_zero_le h0
  have := bl_div (m := m) (k := k) (by omega)
  unfold lenV
  rw [show (m : Int) / ((2 ^ k : Nat) : Int) = ((m / 2 ^ k : Nat) : Int) by simp]
  simp only [Int.toNat_natCast]; omega
theorem lenV_divN {x N : Int} (k : Nat) (hN : ((2 ^ k : Nat) : Int) = N) (h0 : 0 ≤ x) (h : N ≤ x) : lenV (x / N) + k = lenV x := by subst hN; exact lenV_div k h0 h
def tabOk (s : ByteArray) : Bool := (List.range 256).all fun i => s.data[i]?.map UInt8.toNat == some (bl i)
section
variable {P : Program} {n B : Nat} {W : World} {R : RList} {L : List SProp} {y : Operand} {d : Option Tmp} {ty : TypeId} {ps : String} {af : Array Edge} {g : Option (Nat × Bool)} {T : TypeId}
theorem op_indexTab {k : IntKind} {s : ByteArray} {j : Int} (hy : EvalR R y (.int k j)) (h0 : 0 ≤ j) (h1 : j ≤ 255) (hT : P.underlying T = some .string) (hs : tabOk s = true) :
    OP P n ⟨d, .index T (.const (.string s)) y, ty, ps, af, g⟩ R (.int .u8 (lenV j)) := fun a w st => by
  unfold tabOk at hs
  rw [List.all_eq_true] at hs
  have h2 := hs j.toNat (List.mem_range.2 (by omega))
  simp only [beq_iff_eq, Option.map_eq_some_iff] at h2
  obtain ⟨b, hb, hb2⟩ := h2
  have hlt : j.toNat < s.size := (Array.getElem?_eq_some_iff.1 hb).1
  have hg : s[j.toNat]? = some b := by
    rw [getElem?_pos s j.toNat hlt]
    have := (Array.getElem?_eq_some_iff.1 hb).2
    exact congrArg some this
  have e0 : a.eval (.const (.string s)) = .string s := rfl
  simp only [execOp, hy.eval st, e0]
  unfold Instr.index
  rw [run_bind_ok (a := Value.int .u8 (lenV j)) (w' := w)]
  · rfl
  · rw [run_bind_ok (a := (k, j)) (w' := w) rfl, run_bind_ok (und_run hT)]
    simp only [h0, if_true, hg]
    rw [hb2]
    rfl
end
theorem len_bd {x : Int} (h : x ≤ 255) : 0 ≤ lenV x ∧ lenV x ≤ 8 := by
  unfold lenV
  have : bl x.toNat ≤ 8 := by
    unfold bl
    split
    · omega
    · have := (Nat.log2_lt (n := x.toNat) (k := 8) (by assumption)).2 (by omega)
      omega
  omega

set_option maxRecDepth 100000 in
theorem len64_spec (x : Int) (h0 : 0 ≤ x) (h1 : x ≤ 18446744073709551615) (B : Nat) (W : World) (L : List SProp) : Pure Try.prog 74 #[.int .u64 x] B W L (.int .i64 (lenV x)) := by
  refine pure_enter Try.func74 rfl (m := 25) rfl (Nat.le_of_ble_eq_true rfl) (R := [(0, .int .u64 x)]) (by kernel_rfl) ?_
  refine ct_seq ?_
  refine ct_region ?_
  refine rt_q (op_assign .const).q wants_none (put_new (by kernel_rfl)) ?_
  refine rt_nil ?_
  refine et_then ?_
  refine ct_seq ?_
  refine ct_seq ?_
  refine ct_region ?_
  refine rt_q (op_move (.tmp mem1)).q wants_none (put_new (by kernel_rfl)) ?_
  refine rt_q (op_geq (.tmp mem0) .const).q wants_none (put_new (by kernel_rfl)) ?_
  refine rt_nil ?_
  refine et_then ?_
  refine ct_if (.tmp mem0) (fun h1 => ?_) (fun h1 => ?_)
  · refine ct_seq ?_
    refine ct_region ?_
    refine rt_q (op_move (.tmp mem3)).q wants_none (put_new (by kernel_rfl)) ?_
    refine rt_q (op_shr (.tmp mem0) .const (by omega) (shr_n (by omega) 32 rfl (by kernel_rfl : _ = (4294967296 : Int)))).q wants_none (put_new (by kernel_rfl)) ?_
    refine rt_q (op_assign (.tmp mem0)).q wants_none (put_over pick5 (by kernel_rfl)) ?_
    refine rt_nil ?_
    refine et_then ?_
    refine ct_region ?_
    refine rt_q (op_assign .const).q wants_none (put_over pick5 (by kernel_rfl)) ?_
    refine rt_nil ?_
    refine et_then ?_
    refine ct_seq ?_
    refine ct_seq ?_
    refine ct_region ?_
    refine rt_q (op_move (.tmp mem1)).q wants_none (put_new (by kernel_rfl)) ?_
    refine rt_q (op_geq (.tmp mem0) .const).q wants_none (put_new (by kernel_rfl)) ?_
    refine rt_nil ?_
    refine et_then ?_
    refine ct_if (.tmp mem0) (fun h2 => ?_) (fun h2 => ?_)
    · refine ct_seq ?_
      refine ct_region ?_
      refine rt_q (op_move (.tmp mem3)).q wants_none (put_new (by kernel_rfl)) ?_
      refine rt_q (op_shr (.tmp mem0) .const (by omega) (shr_n (by omega) 16 rfl (by kernel_rfl : _ = (65536 : Int)))).q wants_none (put_new (by kernel_rfl)) ?_
      refine rt_q (op_assign (.tmp mem0)).q wants_none (put_over pick5 (by kernel_rfl)) ?_
      refine rt_nil ?_
      refine et_then ?_
      refine ct_region ?_
      refine rt_q (op_move (.tmp mem5)).q wants_none (put_new (by kernel_rfl)) ?_
      refine rt_q (op_add (.tmp mem0) .const (w64 (by omega) (by omega))).q wants_none (put_new (by kernel_rfl)) ?_
      refine rt_q (op_assign (.tmp mem0)).q wants_none (put_over pick7 (by kernel_rfl)) ?_
      refine rt_nil ?_
      refine et_then ?_
      refine ct_seq ?_
      refine ct_seq ?_
      refine ct_region ?_
      refine rt_q (op_move (.tmp mem3)).q wants_none (put_new (by kernel_rfl)) ?_
      refine rt_q (op_geq (.tmp mem0) .const).q wants_none (put_new (by kernel_rfl)) ?_
      refine rt_nil ?_
      refine et_then ?_
      refine ct_if (.tmp mem0) (fun h3 => ?_) (fun h3 => ?_)
      · refine ct_seq ?_
        refine ct_region ?_
        refine rt_q (op_move (.tmp mem5)).q wants_none (put_new (by kernel_rfl)) ?_
        refine rt_q (op_shr (.tmp mem0) .const (by omega) (shr_n (by omega) 8 rfl (by kernel_rfl : _ = (256 : Int)))).q wants_none (put_new (by kernel_rfl)) ?_
        refine rt_q (op_assign (.tmp mem0)).q wants_none (put_over pick7 (by kernel_rfl)) ?_
        refine rt_nil ?_
        refine et_then ?_
        refine ct_region ?_
        refine rt_q (op_move (.tmp mem5)).q wants_none (put_new (by kernel_rfl)) ?_
        refine rt_q (op_add (.tmp mem0) .const (w64 (by omega) (by omega))).q wants_none (put_new (by kernel_rfl)) ?_
        refine rt_q (op_assign (.tmp mem0)).q wants_none (put_over pick7 (by kernel_rfl)) ?_
        refine rt_nil ?_
        refine et_then ?_
        refine ct_seq ?_
        refine ct_region ?_
        refine rt_q (op_move (.tmp mem0)).q wants_none (put_new (by kernel_rfl)) ?_
        refine rt_q (op_move (.tmp mem4)).q wants_none (put_new (by kernel_rfl)) ?_
        refine rt_q (op_conv (.tmp mem0) Try.underlying33 Try.underlying5 (wu8 (by omega) (by omega))).q wants_none (put_new (by kernel_rfl)) ?_
        refine rt_q (op_indexTab (.tmp mem0) (by omega) (by omega) Try.underlying9 (by kernel_rfl)).q wants_none (put_new (by kernel_rfl)) ?_
        have hln := len_bd (x := ((((x / 4294967296) / 65536) / 256))) (by omega)
        refine rt_q (op_conv (.tmp mem0) Try.underlying5 Try.underlying3 (w64 (by omega) (by omega))).q wants_none (put_new (by kernel_rfl)) ?_
        refine rt_q (op_add (.tmp mem4) (.tmp mem0) (w64 (by omega) (by omega))).q wants_none (put_new (by kernel_rfl)) ?_
        refine rt_q (op_assign (.tmp mem0)).q wants_none (put_over pick6 (by kernel_rfl)) ?_
        refine rt_nil ?_
        refine et_then ?_
        refine ct_ret ?_
        exact et_ret rfl (.cons mem0 .nil) (by simp only [tupled]; refine congrArg (Value.int .i64) ?_; have e0 := lenV_divN (x := x) (N := 4294967296) 32 (by kernel_rfl) (by omega) (by omega); have e1 := lenV_divN (x := (x / 4294967296)) (N := 65536) 16 (by kernel_rfl) (by omega) (by omega); have e2 := lenV_divN (x := ((x / 4294967296) / 65536)) (N := 256) 8 (by kernel_rfl) (by omega) (by omega); omega) Ent.refl
      · refine ct_skip ?_
        refine et_then ?_
        refine ct_seq ?_
        refine ct_region ?_
        refine rt_q (op_move (.tmp mem2)).q wants_none (put_new (by kernel_rfl)) ?_
        refine rt_q (op_move (.tmp mem6)).q wants_none (put_new (by kernel_rfl)) ?_
        refine rt_q (op_conv (.tmp mem0) Try.underlying33 Try.underlying5 (wu8 (by omega) (by omega))).q wants_none (put_new (by kernel_rfl)) ?_
        refine rt_q (op_indexTab (.tmp mem0) (by omega) (by omega) Try.underlying9 (by kernel_rfl)).q wants_none (put_new (by kernel_rfl)) ?_
        have hln := len_bd (x := (((x / 4294967296) / 65536))) (by omega)
        refine rt_q (op_conv (.tmp mem0) Try.underlying5 Try.underlying3 (w64 (by omega) (by omega))).q wants_none (put_new (by kernel_rfl)) ?_
        refine rt_q (op_add (.tmp mem4) (.tmp mem0) (w64 (by omega) (by omega))).q wants_none (put_new (by kernel_rfl)) ?_
        refine rt_q (op_assign (.tmp mem0)).q wants_none (put_over pick8 (by kernel_rfl)) ?_
        refine rt_nil ?_
        refine et_then ?_
        refine ct_ret ?_
        exact et_ret rfl (.cons mem0 .nil) (by simp only [tupled]; refine congrArg (Value.int .i64) ?_; have e0 := lenV_divN (x := x) (N := 4294967296) 32 (by kernel_rfl) (by omega) (by omega); have e1 := lenV_divN (x := (x / 4294967296)) (N := 65536) 16 (by kernel_rfl) (by omega) (by omega); omega) Ent.refl
    · refine ct_skip ?_
      refine et_then ?_
      refine ct_seq ?_
      refine ct_seq ?_
      refine ct_region ?_
      refine rt_q (op_move (.tmp mem3)).q wants_none (put_new (by kernel_rfl)) ?_
      refine rt_q (op_geq (.tmp mem0) .const).q wants_none (put_new (by kernel_rfl)) ?_
      refine rt_nil ?_
      refine et_then ?_
      refine ct_if (.tmp mem0) (fun h4 => ?_) (fun h4 => ?_)
      · refine ct_seq ?_
        refine ct_region ?_
        refine rt_q (op_move (.tmp mem5)).q wants_none (put_new (by kernel_rfl)) ?_
        refine rt_q (op_shr (.tmp mem0) .const (by omega) (shr_n (by omega) 8 rfl (by kernel_rfl : _ = (256 : Int)))).q wants_none (put_new (by kernel_rfl)) ?_
        refine rt_q (op_assign (.tmp mem0)).q wants_none (put_over pick7 (by kernel_rfl)) ?_
        refine rt_nil ?_
        refine et_then ?_
        refine ct_region ?_
        refine rt_q (op_move (.tmp mem7)).q wants_none (put_new (by kernel_rfl)) ?_
        refine rt_q (op_add (.tmp mem0) .const (w64 (by omega) (by omega))).q wants_none (put_new (by kernel_rfl)) ?_
        refine rt_q (op_assign (.tmp mem0)).q wants_none (put_over pick9 (by kernel_rfl)) ?_
        refine rt_nil ?_
        refine et_then ?_
        refine ct_seq ?_
        refine ct_region ?_
        refine rt_q (op_move (.tmp mem0)).q wants_none (put_new (by kernel_rfl)) ?_
        refine rt_q (op_move (.tmp mem4)).q wants_none (put_new (by kernel_rfl)) ?_
        refine rt_q (op_conv (.tmp mem0) Try.underlying33 Try.underlying5 (wu8 (by omega) (by omega))).q wants_none (put_new (by kernel_rfl)) ?_
        refine rt_q (op_indexTab (.tmp mem0) (by omega) (by omega) Try.underlying9 (by kernel_rfl)).q wants_none (put_new (by kernel_rfl)) ?_
        have hln := len_bd (x := (((x / 4294967296) / 256))) (by omega)
        refine rt_q (op_conv (.tmp mem0) Try.underlying5 Try.underlying3 (w64 (by omega) (by omega))).q wants_none (put_new (by kernel_rfl)) ?_
        refine rt_q (op_add (.tmp mem4) (.tmp mem0) (w64 (by omega) (by omega))).q wants_none (put_new (by kernel_rfl)) ?_
        refine rt_q (op_assign (.tmp mem0)).q wants_none (put_over pick6 (by kernel_rfl)) ?_
        refine rt_nil ?_
        refine et_then ?_
        refine ct_ret ?_
        exact et_ret rfl (.cons mem0 .nil) (by simp only [tupled]; refine congrArg (Value.int .i64) ?_; have e0 := lenV_divN (x := x) (N := 4294967296) 32 (by kernel_rfl) (by omega) (by omega); have e1 := lenV_divN (x := (x / 4294967296)) (N := 256) 8 (by kernel_rfl) (by omega) (by omega); omega) Ent.refl
      · refine ct_skip ?_
        refine et_then ?_
        refine ct_seq ?_
        refine ct_region ?_
        refine rt_q (op_move (.tmp mem4)).q wants_none (put_new (by kernel_rfl)) ?_
        refine rt_q (op_move (.tmp mem6)).q wants_none (put_new (by kernel_rfl)) ?_
        refine rt_q (op_conv (.tmp mem0) Try.underlying33 Try.underlying5 (wu8 (by omega) (by omega))).q wants_none (put_new (by kernel_rfl)) ?_
        refine rt_q (op_indexTab (.tmp mem0) (by omega) (by omega) Try.underlying9 (by kernel_rfl)).q wants_none (put_new (by kernel_rfl)) ?_
        have hln := len_bd (x := ((x / 4294967296))) (by omega)
        refine rt_q (op_conv (.tmp mem0) Try.underlying5 Try.underlying3 (w64 (by omega) (by omega))).q wants_none (put_new (by kernel_rfl)) ?_
        refine rt_q (op_add (.tmp mem4) (.tmp mem0) (w64 (by omega) (by omega))).q wants_none (put_new (by kernel_rfl)) ?_
        refine rt_q (op_assign (.tmp mem0)).q wants_none (put_over pick10 (by kernel_rfl)) ?_
        refine rt_nil ?_
        refine et_then ?_
        refine ct_ret ?_
        exact et_ret rfl (.cons mem0 .nil) (by simp only [tupled]; refine congrArg (Value.int .i64) ?_; have e0 := lenV_divN (x := x) (N := 4294967296) 32 (by kernel_rfl) (by omega) (by omega); omega) Ent.refl
  · refine ct_skip ?_
    refine et_then ?_
    refine ct_seq ?_
    refine ct_seq ?_
    refine ct_region ?_
    refine rt_q (op_move (.tmp mem3)).q wants_none (put_new (by kernel_rfl)) ?_
    refine rt_q (op_geq (.tmp mem0) .const).q wants_none (put_new (by kernel_rfl)) ?_
    refine rt_nil ?_
    refine et_then ?_
    refine ct_if (.tmp mem0) (fun h5 => ?_) (fun h5 => ?_)
    · refine ct_seq ?_
      refine ct_region ?_
      refine rt_q (op_move (.tmp mem5)).q wants_none (put_new (by kernel_rfl)) ?_
      refine rt_q (op_shr (.tmp mem0) .const (by omega) (shr_n (by omega) 16 rfl (by kernel_rfl : _ = (65536 : Int)))).q wants_none (put_new (by kernel_rfl)) ?_
      refine rt_q (op_assign (.tmp mem0)).q wants_none (put_over pick7 (by kernel_rfl)) ?_
      refine rt_nil ?_
      refine et_then ?_
      refine ct_region ?_
      refine rt_q (op_move (.tmp mem7)).q wants_none (put_new (by kernel_rfl)) ?_
      refine rt_q (op_add (.tmp mem0) .const (w64 (by omega) (by omega))).q wants_none (put_new (by kernel_rfl)) ?_
      refine rt_q (op_assign (.tmp mem0)).q wants_none (put_over pick9 (by kernel_rfl)) ?_
      refine rt_nil ?_
      refine et_then ?_
      refine ct_seq ?_
      refine ct_seq ?_
      refine ct_region ?_
      refine rt_q (op_move (.tmp mem3)).q wants_none (put_new (by kernel_rfl)) ?_
      refine rt_q (op_geq (.tmp mem0) .const).q wants_none (put_new (by kernel_rfl)) ?_
      refine rt_nil ?_
      refine et_then ?_
      refine ct_if (.tmp mem0) (fun h6 => ?_) (fun h6 => ?_)
      · refine ct_seq ?_
        refine ct_region ?_
        refine rt_q (op_move (.tmp mem5)).q wants_none (put_new (by kernel_rfl)) ?_
        refine rt_q (op_shr (.tmp mem0) .const (by omega) (shr_n (by omega) 8 rfl (by kernel_rfl : _ = (256 : Int)))).q wants_none (put_new (by kernel_rfl)) ?_
        refine rt_q (op_assign (.tmp mem0)).q wants_none (put_over pick7 (by kernel_rfl)) ?_
        refine rt_nil ?_
        refine et_then ?_
        refine ct_region ?_
        refine rt_q (op_move (.tmp mem5)).q wants_none (put_new (by kernel_rfl)) ?_
        refine rt_q (op_add (.tmp mem0) .const (w64 (by omega) (by omega))).q wants_none (put_new (by kernel_rfl)) ?_
        refine rt_q (op_assign (.tmp mem0)).q wants_none (put_over pick7 (by kernel_rfl)) ?_
        refine rt_nil ?_
        refine et_then ?_
        refine ct_seq ?_
        refine ct_region ?_
        refine rt_q (op_move (.tmp mem0)).q wants_none (put_new (by kernel_rfl)) ?_
        refine rt_q (op_move (.tmp mem4)).q wants_none (put_new (by kernel_rfl)) ?_
        refine rt_q (op_conv (.tmp mem0) Try.underlying33 Try.underlying5 (wu8 (by omega) (by omega))).q wants_none (put_new (by kernel_rfl)) ?_
        refine rt_q (op_indexTab (.tmp mem0) (by omega) (by omega) Try.underlying9 (by kernel_rfl)).q wants_none (put_new (by kernel_rfl)) ?_
        have hln := len_bd (x := (((x / 65536) / 256))) (by omega)
        refine rt_q (op_conv (.tmp mem0) Try.underlying5 Try.underlying3 (w64 (by omega) (by omega))).q wants_none (put_new (by kernel_rfl)) ?_
        refine rt_q (op_add (.tmp mem4) (.tmp mem0) (w64 (by omega) (by omega))).q wants_none (put_new (by kernel_rfl)) ?_
        refine rt_q (op_assign (.tmp mem0)).q wants_none (put_over pick6 (by kernel_rfl)) ?_
        refine rt_nil ?_
        refine et_then ?_
        refine ct_ret ?_
        exact et_ret rfl (.cons mem0 .nil) (by simp only [tupled]; refine congrArg (Value.int .i64) ?_; have e0 := lenV_divN (x := x) (N := 65536) 16 (by kernel_rfl) (by omega) (by omega); have e1 := lenV_divN (x := (x / 65536)) (N := 256) 8 (by kernel_rfl) (by omega) (by omega); omega) Ent.refl
      · refine ct_skip ?_
        refine et_then ?_
        refine ct_seq ?_
        refine ct_region ?_
        refine rt_q (op_move (.tmp mem2)).q wants_none (put_new (by kernel_rfl)) ?_
        refine rt_q (op_move (.tmp mem6)).q wants_none (put_new (by kernel_rfl)) ?_
        refine rt_q (op_conv (.tmp mem0) Try.underlying33 Try.underlying5 (wu8 (by omega) (by omega))).q wants_none (put_new (by kernel_rfl)) ?_
        refine rt_q (op_indexTab (.tmp mem0) (by omega) (by omega) Try.underlying9 (by kernel_rfl)).q wants_none (put_new (by kernel_rfl)) ?_
        have hln := len_bd (x := ((x / 65536))) (by omega)
        refine rt_q (op_conv (.tmp mem0) Try.underlying5 Try.underlying3 (w64 (by omega) (by omega))).q wants_none (put_new (by kernel_rfl)) ?_
        refine rt_q (op_add (.tmp mem4) (.tmp mem0) (w64 (by omega) (by omega))).q wants_none (put_new (by kernel_rfl)) ?_
        refine rt_q (op_assign (.tmp mem0)).q wants_none (put_over pick8 (by kernel_rfl)) ?_
        refine rt_nil ?_
        refine et_then ?_
        refine ct_ret ?_
        exact et_ret rfl (.cons mem0 .nil) (by simp only [tupled]; refine congrArg (Value.int .i64) ?_; have e0 := lenV_divN (x := x) (N := 65536) 16 (by kernel_rfl) (by omega) (by omega); omega) Ent.refl
    · refine ct_skip ?_
      refine et_then ?_
      refine ct_seq ?_
      refine ct_seq ?_
      refine ct_region ?_
      refine rt_q (op_move (.tmp mem5)).q wants_none (put_new (by kernel_rfl)) ?_
      refine rt_q (op_geq (.tmp mem0) .const).q wants_none (put_new (by kernel_rfl)) ?_
      refine rt_nil ?_
      refine et_then ?_
      refine ct_if (.tmp mem0) (fun h7 => ?_) (fun h7 => ?_)
      · refine ct_seq ?_
        refine ct_region ?_
        refine rt_q (op_move (.tmp mem7)).q wants_none (put_new (by kernel_rfl)) ?_
        refine rt_q (op_shr (.tmp mem0) .const (by omega) (shr_n (by omega) 8 rfl (by kernel_rfl : _ = (256 : Int)))).q wants_none (put_new (by kernel_rfl)) ?_
        refine rt_q (op_assign (.tmp mem0)).q wants_none (put_over pick9 (by kernel_rfl)) ?_
        refine rt_nil ?_
        refine et_then ?_
        refine ct_region ?_
        refine rt_q (op_move (.tmp mem9)).q wants_none (put_new (by kernel_rfl)) ?_
        refine rt_q (op_add (.tmp mem0) .const (w64 (by omega) (by omega))).q wants_none (put_new (by kernel_rfl)) ?_
        refine rt_q (op_assign (.tmp mem0)).q wants_none (put_over pick11 (by kernel_rfl)) ?_
        refine rt_nil ?_
        refine et_then ?_
        refine ct_seq ?_
        refine ct_region ?_
        refine rt_q (op_move (.tmp mem0)).q wants_none (put_new (by kernel_rfl)) ?_
        refine rt_q (op_move (.tmp mem4)).q wants_none (put_new (by kernel_rfl)) ?_
        refine rt_q (op_conv (.tmp mem0) Try.underlying33 Try.underlying5 (wu8 (by omega) (by omega))).q wants_none (put_new (by kernel_rfl)) ?_
        refine rt_q (op_indexTab (.tmp mem0) (by omega) (by omega) Try.underlying9 (by kernel_rfl)).q wants_none (put_new (by kernel_rfl)) ?_
        have hln := len_bd (x := ((x / 256))) (by omega)
        refine rt_q (op_conv (.tmp mem0) Try.underlying5 Try.underlying3 (w64 (by omega) (by omega))).q wants_none (put_new (by kernel_rfl)) ?_
        refine rt_q (op_add (.tmp mem4) (.tmp mem0) (w64 (by omega) (by omega))).q wants_none (put_new (by kernel_rfl)) ?_
        refine rt_q (op_assign (.tmp mem0)).q wants_none (put_over pick6 (by kernel_rfl)) ?_
        refine rt_nil ?_
        refine et_then ?_
        refine ct_ret ?_
        exact et_ret rfl (.cons mem0 .nil) (by simp only [tupled]; refine congrArg (Value.int .i64) ?_; have e0 := lenV_divN (x := x) (N := 256) 8 (by kernel_rfl) (by omega) (by omega); omega) Ent.refl
      · refine ct_skip ?_
        refine et_then ?_
        refine ct_seq ?_
        refine ct_region ?_
        refine rt_q (op_move (.tmp mem6)).q wants_none (put_new (by kernel_rfl)) ?_
        refine rt_q (op_move (.tmp mem8)).q wants_none (put_new (by kernel_rfl)) ?_
        refine rt_q (op_conv (.tmp mem0) Try.underlying33 Try.underlying5 (wu8 (by omega) (by omega))).q wants_none (put_new (by kernel_rfl)) ?_
        refine rt_q (op_indexTab (.tmp mem0) (by omega) (by omega) Try.underlying9 (by kernel_rfl)).q wants_none (put_new (by kernel_rfl)) ?_
        have hln := len_bd (x := x) (by omega)
        refine rt_q (op_conv (.tmp mem0) Try.underlying5 Try.underlying3 (w64 (by omega) (by omega))).q wants_none (put_new (by kernel_rfl)) ?_
        refine rt_q (op_add (.tmp mem4) (.tmp mem0) (w64 (by omega) (by omega))).q wants_none (put_new (by kernel_rfl)) ?_
        refine rt_q (op_assign (.tmp mem0)).q wants_none (put_over pick12 (by kernel_rfl)) ?_
        refine rt_nil ?_
        refine et_then ?_
        refine ct_ret ?_
        exact et_ret rfl (.cons mem0 .nil) (by simp only [tupled]; refine congrArg (Value.int .i64) ?_; omega) Ent.refl

theorem lenV_rng {x : Int} (h1 : x ≤ 18446744073709551615) : 0 ≤ lenV x ∧ lenV x ≤ 64 := by
  unfold lenV
  have : bl x.toNat ≤ 64 := by
    unfold bl
    split
    · omega
    · have := (Nat.log2_lt (n := x.toNat) (k := 64) (by assumption)).2 (by omega)
      omega
  omega

set_option maxRecDepth 100000 in
theorem high_spec (x : Int) (h0 : 0 ≤ x) (h1 : x ≤ 18446744073709551615) (B : Nat) (W : World) (L : List SProp) : Pure Try.prog 69 #[.int .u64 x] B W L (.int .i64 (lenV x - 1)) := by
  have hl := lenV_rng h1
  refine pure_enter Try.func69 rfl (m := 6) rfl (Nat.le_of_ble_eq_true rfl) (R := [(0, .int .u64 x)]) (by kernel_rfl) ?_
  refine ct_seq ?_
  refine ct_region ?_
  refine rt_q (op_assign .const).q wants_none (put_new (by kernel_rfl)) ?_
  refine rt_nil ?_
  refine et_then ?_
  refine ct_seq ?_
  refine ct_region ?_
  refine rt_q (op_move (.tmp mem1)).q wants_none (put_new (by kernel_rfl)) ?_
  refine rt_q (oq_call0 (by kernel_rfl) (.cons (.tmp mem0) .nil) (len64_spec _ (by omega) (by omega) B W _)) wants_none (put_new (by kernel_rfl)) ?_
  refine rt_q (op_sub (.tmp mem0) .const (w64 (by omega) (by omega))).q wants_none (put_new (by kernel_rfl)) ?_
  refine rt_q (op_assign (.tmp mem0)).q wants_none (put_over pick3 (by kernel_rfl)) ?_
  refine rt_nil ?_
  refine et_then ?_
  refine ct_ret ?_
  exact et_ret rfl (.cons mem0 .nil) (by rfl) Ent.refl

set_option maxRecDepth 100000 in
theorem bit_spec (k : Nat) (hk : k ≤ 63) (B : Nat) (W : World) (L : List SProp) : Pure Try.prog 48 #[.int .i64 ((k : Int))] B W L (.int .u64 ((2 ^ k : Nat) : Int)) := by
  refine pure_enter Try.func48 rfl (m := 12) rfl (Nat.le_of_ble_eq_true rfl) (R := [(0, .int .i64 ((k : Int)))]) (by kernel_rfl) ?_
  refine ct_seq ?_
  refine ct_region ?_
  refine rt_q (op_assign .const).q wants_none (put_new (by kernel_rfl)) ?_
  refine rt_nil ?_
  refine et_then ?_
  refine ct_seq ?_
  refine ct_seq ?_
  refine ct_region ?_
  refine rt_q (op_move (.tmp mem1)).q wants_none (put_new (by kernel_rfl)) ?_
  refine rt_q (op_lss (.tmp mem0) .const).q wants_none (put_new (by kernel_rfl)) ?_
  refine rt_q (op_move (.tmp mem0)).q wants_none (put_new (by kernel_rfl)) ?_
  refine rt_case turn0 turn0 (fun h1 => ?_) (fun h1 => ?_)
  · exact absurd h1 (by omega)
  · refine rt_q (op_move (.tmp mem4)).q (wants_some rfl rfl mem0 rfl) (put_new (by kernel_rfl)) ?_
    refine rt_q (op_gtr (.tmp mem0) .const).q (wants_some rfl rfl mem1 rfl) (put_new (by kernel_rfl)) ?_
    refine rt_q (op_pick (b := false) (.tmp mem2) (.tmp mem0)).q wants_none (put_new (by kernel_rfl)) ?_
    refine rt_nil ?_
    refine et_then ?_
    refine ct_if (.tmp mem0) (fun h2 => ?_) (fun h2 => ?_)
    · exact absurd h2 (by omega)
    · refine ct_skip ?_
      refine et_then ?_
      refine ct_seq ?_
      refine ct_region ?_
      refine rt_q (op_move (.tmp mem7)).q wants_none (put_new (by kernel_rfl)) ?_
      refine rt_q (op_conv (.tmp mem0) Try.underlying3 Try.underlying34 (wu64 (by omega) (by omega))).q wants_none (put_new (by kernel_rfl)) ?_
      refine rt_q (op_shl .const (.tmp mem0) (by omega) (shl_u (by omega))).q wants_none (put_new (by kernel_rfl)) ?_
      refine rt_q (op_assign (.tmp mem0)).q wants_none (put_over pick9 (by kernel_rfl)) ?_
      refine rt_nil ?_
      refine et_then ?_
      refine ct_ret ?_
      exact et_ret rfl (.cons mem0 .nil) (by rfl) Ent.refl

end Go.Proofs.Ytkfkiaieeiodnaa
