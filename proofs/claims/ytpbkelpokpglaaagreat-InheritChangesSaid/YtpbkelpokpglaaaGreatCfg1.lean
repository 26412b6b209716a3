/- Walks: the checks of a configuration (config and its reference), function by function. -/
import Derived.Test.YtpbkelpokpglaaaGreatRows
import Derived.Test.YtpbkelpokpglaaaGreatBase
set_option linter.all false
namespace Go.Proofs.YtpbkelpokpglaaaGreat
open Go.RowKit
set_option maxHeartbeats 400000 in
theorem cfgIn_any (a b c : Int) (w : World) :
    Calls Tryz.prog 147 #[.int .i64 a, .int .i64 b, .int .i64 c] w fun e w' => e = .returned (.bool (inB a b c)) ∧ w = w' := by
  unfold inB
  by_cases h : b ≤ a
  all_goals
    go_enter Tryz.func147, Tryz.ntmps147
    go_wp2
    go_ret
    all_goals (simp [*] <;> omega)
set_option maxHeartbeats 400000 in
theorem refIn_any (a b c : Int) (w : World) :
    Calls Tryz.prog 93 #[.int .i64 a, .int .i64 b, .int .i64 c] w fun e w' => e = .returned (.bool (inB a b c)) ∧ w = w' := by
  unfold inB
  by_cases h : b ≤ a
  all_goals
    go_enter Tryz.func93, Tryz.ntmps93
    go_wp2
    go_ret
    all_goals (simp [*] <;> omega)
set_option maxHeartbeats 1000000 in
theorem cfgNumbers_any (c : Cfg) (l : CfgAt) (w : World) :
    Calls Tryz.prog 89 #[cfgV c l] w fun e w' => e = .returned (.bool (numsOk c)) ∧ Below w.heap.size w w' := by
  unfold cfgV numsOk
  by_cases hl : c.levels < 8
  all_goals
    go_enter Tryz.func89, Tryz.ntmps89
    go_wp2_with (first | (go_at_call 147; refine (cfgIn_any _ _ _ _).mono ?_; rintro e w' ⟨rfl, rfl⟩))
    all_goals go_ret
    all_goals simp [*]
    all_goals exact (Below.refl _ _).alloc (Nat.le_refl _) _
set_option maxHeartbeats 1000000 in
theorem cfgValid_any (c : Cfg) (l : CfgAt) (x : Ins) (w : World) (h1 : 1 ≤ c.levels) (h2 : c.levels ≤ 64) (hp : c.progs.length ≤ 9223372036854775807) :
    Calls Tryz.prog 148 #[cfgV c l, .agg #[.int .i64 x.op, .int .i64 x.a, .int .i64 x.b]] w fun e w' => e = .returned (.bool (insOk c.levels c.progs.length x)) ∧ Below w.heap.size w w' := by
  unfold cfgV
  go_enter Tryz.func148, Tryz.ntmps148
  go_wp2_with (first | (go_at_call 147; refine (cfgIn_any _ _ _ _).mono ?_; rintro e w' ⟨rfl, rfl⟩))
  all_goals go_ret
  all_goals refine ⟨ret_bool (by unfold insOk; simp_all), ?_⟩
  all_goals exact ((Below.refl _ _).alloc (Nat.le_refl _) _).alloc (by simp) _
set_option maxHeartbeats 1000000 in
theorem refInstr_any (c : Cfg) (l : CfgAt) (x : Ins) (w : World) (h1 : 1 ≤ c.levels) (h2 : c.levels ≤ 64) (hp : c.progs.length ≤ 9223372036854775807) :
    Calls Tryz.prog 94 #[cfgV c l, .agg #[.int .i64 x.op, .int .i64 x.a, .int .i64 x.b]] w fun e w' => e = .returned (.bool (insOk c.levels c.progs.length x)) ∧ Below w.heap.size w w' := by
  unfold cfgV
  go_enter Tryz.func94, Tryz.ntmps94
  go_wp2_with (first | (go_at_call 93; refine (refIn_any _ _ _ _).mono ?_; rintro e w' ⟨rfl, rfl⟩))
  all_goals go_ret
  all_goals refine ⟨ret_bool (by unfold insOk; simp_all), ?_⟩
  all_goals exact ((Below.refl _ _).alloc (Nat.le_refl _) _).alloc (by simp) _
set_option maxHeartbeats 1000000 in
theorem refNumbers_any (c : Cfg) (l : CfgAt) (w : World) :
    Calls Tryz.prog 92 #[cfgV c l] w fun e w' => e = .returned (.bool (numsOk c)) ∧ Below w.heap.size w w' := by
  unfold cfgV numsOk
  by_cases hl : c.levels < 8
  all_goals
    go_enter Tryz.func92, Tryz.ntmps92
    go_wp2_with (first | (go_at_call 93; refine (refIn_any _ _ _ _).mono ?_; rintro e w' ⟨rfl, rfl⟩))
    all_goals go_ret
    all_goals simp [*]
    all_goals exact (Below.refl _ _).alloc (Nat.le_refl _) _
end Go.Proofs.YtpbkelpokpglaaaGreat
