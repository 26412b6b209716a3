/- Walks: the check and Of of measure. -/
import Derived.Test.YtpbkelpokpglaaaGreatMeas3
import Derived.Maps.OwnSet
set_option linter.all false
namespace Go.Proofs.YtpbkelpokpglaaaGreat
open Go.RowKit Go.Maps
set_option maxHeartbeats 2000000 in
theorem measCheck_any (c : Cfg) (p : CfgAt) (A : Option Addr) (cap : Nat) (l : List St) (w : World) (hc : CfgIn w w.heap.size c p) (hl : Sl St.enc 6 w w.heap.size A l) :
    Calls Tryz.prog 38 #[cfgV c p, .slice A l.length cap] w fun e w' => e = .returned (.int .i64 (measErr c l)) ∧ Below w.heap.size w w' := by
  have hlen := hl.len
  by_cases he : cfgErr c = 0
  · have hfin : measErr c l = stErr l := by simp [measErr, he]
    have Hfin := Lib.hid hfin
    clear hfin
    unfold cfgV
    go_enter Tryz.func38, Tryz.ntmps38
    go_wp2_with fail
    refine (cfgCheck_any c p _ (hc.up ((Below.refl _ _).alloc (Nat.le_refl _) _))).mono ?_; rintro e w1 ⟨rfl, hb1⟩
    have hw1 := below_box1 hb1
    clear hb1
    go_wp2_with fail
    go_loopw [16] (fun i wr => ∃ k : Nat, k ≤ l.length ∧ i = .int .i64 k ∧ RngInv l k ∧ Below w.heap.size w wr) (fun i _ => l.length - (intOf i).toNat)
    case atStart => exact ⟨0, Nat.zero_le _, rfl, by simp [RngInv], hw1⟩
    case round =>
      clear hw1
      obtain ⟨k, hk, rfl, hi, hb⟩ := hrel
      obtain ⟨hcs, hfz⟩ := bcell hb
      by_cases hlt : k < l.length
      · obtain ⟨b, o, rfl, hbb, hcc⟩ := st_cells hl hlt
        obtain ⟨c0, c1, c2, c3, c4, c5⟩ := hcc k hlt
        by_cases g1 : l[k].at_ < 0
        · have hres := Lib.hid (stErr_rng hlt (by simp only [rngB, Bool.and_eq_false_iff, decide_eq_false_iff_not]; omega))
          go_wp2
          go_ret
          exact ⟨ret_int (by rw [Hfin.out, hres.out]), hb.alloc hb.size _⟩
        · by_cases g2 : 1099511627776 < l[k].at_
          · have hres := Lib.hid (stErr_rng hlt (by simp only [rngB, Bool.and_eq_false_iff, decide_eq_false_iff_not]; omega))
            go_wp2
            go_ret
            exact ⟨ret_int (by rw [Hfin.out, hres.out]), hb.alloc hb.size _⟩
          · go_wp2
            go_roundw
            case rel => exact ⟨k + 1, by omega, by go_num, all_take_succ hlt hi (by simp only [rngB, Bool.and_eq_true, decide_eq_true_eq]; omega), hb.alloc hb.size _⟩
            case measure => simp [intOf]; omega
      · have hall := Lib.hid (rng_all hi (by omega))
        clear hi
        go_wp2
        obtain ⟨wo, rfl⟩ : ∃ wo : World, wo = wr := ⟨_, rfl⟩
        clear hcs hfz
        by_cases h1 : l.length ≤ 1
        · have hres := Lib.hid (stErr_ok hall.out (ordOk_le1 h1))
          obtain ⟨hcs, hfz⟩ := bcell hb
          refine wp_loop_once ?_
          go_wp2
          go_ret
          exact ⟨ret_int (by rw [Hfin.out, hres.out]), hb⟩
        · go_loopw [8] (fun i wr => ∃ k : Nat, 1 ≤ k ∧ k ≤ l.length ∧ i = .int .i64 k ∧ OrdInv l k ∧ Below w.heap.size w wr) (fun i _ => l.length - (intOf i).toNat)
          case atStart => exact ⟨1, by omega, by omega, rfl, ⟨hall.out, rfl⟩, hb⟩
          case round =>
            clear hb
            obtain ⟨m, hm1, hk, rfl, hi, hb⟩ := hrel
            obtain ⟨hcs, hfz⟩ := bcell hb
            by_cases hlt : m < l.length
            · obtain ⟨b, o, rfl, hbb, hcc⟩ := st_cells hl hlt
              obtain ⟨c0, _⟩ := hcc m hlt
              obtain ⟨c1, _⟩ := hcc (m - 1) (by omega)
              have hmi : ((m : Int) - 1).toNat = m - 1 := by omega
              by_cases ho : l[m].at_ < l[m - 1].at_
              · have hres := Lib.hid (stErr_ord hi.1 hlt (by omega) ho)
                go_wp2
                go_quiet (fail)
                go_wp2
                go_ret
                exact ⟨ret_int (by rw [Hfin.out, hres.out]), below_drewN hb _⟩
              · go_wp2
                go_quiet (fail)
                go_wp2
                go_roundw
                case rel => exact ⟨m + 1, by omega, by omega, by go_num, ⟨hi.1, ordOk_next hlt (by omega) hi.2 (by omega)⟩, below_drewN hb _⟩
                case measure => simp [intOf]; omega
            · have hres := Lib.hid (stErr_ok hi.1 (by
                have e : m = l.length := by omega
                subst e; exact hi.2))
              go_wp2
              go_ret
              exact ⟨ret_int (by rw [Hfin.out, hres.out]), hb⟩
  · have hfin : measErr c l = cfgErr c := by simp [measErr, he]
    have Hfin := Lib.hid hfin
    have he' : (cfgErr c == 0) = false := by simpa using he
    clear hfin he
    unfold cfgV
    go_enter Tryz.func38, Tryz.ntmps38
    go_wp2_with fail
    refine (cfgCheck_any c p _ (hc.up ((Below.refl _ _).alloc (Nat.le_refl _) _))).mono ?_; rintro e w1 ⟨rfl, hb1⟩
    have hw1 := below_box1 hb1
    go_wp2_with fail
    go_ret
    exact ⟨ret_int Hfin.out.symm, hw1⟩
/-! ### counter: which of the figures a kind belongs to -/
def slotOf (k : Int) : Option Nat :=
  if k = 1 then some 0 else if k = 2 then some 1 else if k = 3 then some 2 else if k = 4 then some 3 else if k = 5 then some 4 else if k = 10 then some 5 else if k = 14 then some 6 else if k = 15 then some 7 else if k = 11 then some 8 else if k = 12 then some 9 else if k = 16 then some 10 else none
def slotV (g : Nat) : Option Nat → Value
  | some j => .pointer (some ⟨g, j, none⟩)
  | none => .pointer none
set_option maxRecDepth 100000 in
set_option maxHeartbeats 2000000 in
theorem counter_any (g : Nat) (k : Int) (w : World) :
    Calls Tryz.prog 39 #[.pointer (some ⟨g, 0, none⟩), .int .i64 k] w fun e w' => e = .returned (slotV g (slotOf k)) ∧ w = w' := by
  go_enter Tryz.func39, Tryz.ntmps39
  go_wp2
  all_goals go_ret
  all_goals refine ⟨?_, rfl⟩
  all_goals (simp only [beq_iff_eq, beq_eq_false_iff_ne] at *; simp [slotOf, slotV, *])
end Go.Proofs.YtpbkelpokpglaaaGreat
