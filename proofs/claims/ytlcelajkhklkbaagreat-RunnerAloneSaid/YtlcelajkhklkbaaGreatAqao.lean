/- Walks: the check of a configuration (its reference), and whether it is small. The reference's check of a configuration, in the evaluator's words. The reference of the model in the evaluator's form. -/
import Derived.Test.YtlcelajkhklkbaaGreatAqaj
import Derived.Test.YtlcelajkhklkbaaGreatAqan
set_option linter.all false
namespace Go.Proofs.YtlcelajkhklkbaaGreat
section
open Go.RowKit
set_option maxHeartbeats 2000000 in
theorem aoA (c : Cfg) (l : CfgAt) (w : World) (hc : ai0 w w.heap.size c l) :
    Calls Tryz.prog 17 #[alm c l] w fun e w' => e = .returned (.int .i64 (ab5 c)) ∧ Below w.heap.size w w' := by
  have hlen := hc.1.1
  have hlen2 := hc.2.1
  by_cases hn : ahn c = true
  · obtain ⟨_, _, h1, h2, _⟩ := afy hn
    by_cases hp : inB (c.progs.length : Int) 1 32 = true
    · have hpa0 : abR c = aaO c.levels c.progs.length c.progs := by simp [abR, hp]
      have hfin : ab5 c = if aaO c.levels c.progs.length c.progs ≠ 0 then aaO c.levels c.progs.length c.progs else adH c := by simp [ab5, hn, hpa0]
      have Hfin := Lib.hid hfin
      clear hfin hpa0
      unfold alm
      go_enter Tryz.func17, Tryz.ntmps17
      go_wp2_with fail
      refine (af3 c l _).mono ?_; rintro e w1 ⟨rfl, hb1⟩
      obtain ⟨hc1, hf1⟩ := ajY hb1
      have hw1 := ae4 hb1
      go_wp2_with fail
      refine (aew _ _ _ _).mono ?_; rintro e w2 ⟨rfl, rfl⟩
      go_wp2_with fail
      clear hc1 hf1
      have hb1' : Below (w.heap.size + 1) (w.alloc (ah3 c l)) w1 := by simpa using hb1
      clear hb1
      go_loopw [3] (fun i wr => ∃ k : Nat, k ≤ c.progs.length ∧ i = .int .i64 k ∧ aAS c.levels c.progs.length c.progs k ∧ Below (w.heap.size + 1) (w.alloc (ah3 c l)) wr) (fun i _ => c.progs.length - (intOf i).toNat)
      case atStart => exact ⟨0, Nat.zero_le _, rfl, rfl, hb1'⟩
      case round =>
        clear hb1' hw1
        obtain ⟨k, hk, rfl, hi, hb⟩ := hrel
        have hB : w.heap.size < wr.heap.size := by have := hb.size; simp at this; omega
        have hbw : Below w.heap.size w wr := ((Below.refl _ _).alloc (Nat.le_refl _) _).trans (hb.mono (by omega))
        obtain ⟨hcs, hfz⟩ := ajY hb
        by_cases hlt : k < c.progs.length
        · obtain ⟨b, o, hpa, hbb, Ai, ci, hcell, hsl⟩ := hc.1.at_ hlt
          have hln := hsl.len
          obtain ⟨pa, pc, sa, sc⟩ := l
          obtain rfl : pa = some ⟨b, o, none⟩ := hpa
          by_cases hlong : 32 < c.progs[k].length
          · have hres := Lib.hid (afT hlt hi hlong)
            go_wp2
            go_ret
            exact ⟨ab9 (by rw [Hfin.out, hres.out]; simp), hbw⟩
          · go_wp2
            obtain ⟨wo, rfl⟩ : ∃ wo : World, wo = wr := ⟨_, rfl⟩
            clear hcs hfz
            go_loopw [4] (fun i ws => ∃ j : Nat, j ≤ c.progs[k].length ∧ i = .int .i64 j ∧ azN c.levels c.progs.length c.progs[k] j ∧ Below (w.heap.size + 1) (w.alloc (ah3 c ⟨some ⟨b, o, none⟩, pc, sa, sc⟩)) ws) (fun i _ => c.progs[k].length - (intOf i).toNat)
            case atStart => exact ⟨0, Nat.zero_le _, rfl, by simp [azN], hb⟩
            case round =>
              obtain ⟨j, hj, rfl, hq, hb2⟩ := hrel
              have hB2 : w.heap.size < wr.heap.size := by have := hb2.size; simp at this; omega
              obtain ⟨hcs, hfz⟩ := ajY hb2
              by_cases hjt : j < c.progs[k].length
              · obtain ⟨b2, o2, hpa2, hbb2, hcc⟩ := hsl.at_ hjt
                obtain rfl : Ai = some ⟨b2, o2, none⟩ := hpa2
                have c0 : w.cell? ⟨b2, o2 + j * 3, none⟩ = some (.int .i64 c.progs[k][j].op) := hcc j hjt 0 _ rfl
                have c1 : w.cell? ⟨b2, o2 + j * 3 + 1, none⟩ = some (.int .i64 c.progs[k][j].a) := hcc j hjt 1 _ rfl
                have c2 : w.cell? ⟨b2, o2 + j * 3 + 2, none⟩ = some (.int .i64 c.progs[k][j].b) := hcc j hjt 2 _ rfl
                by_cases hok : ahx c.levels c.progs.length c.progs[k][j] = true
                · have hok2 : (!ahx c.levels c.progs.length c.progs[k][j]) = false := by simp [hok]
                  go_wp2
                  clear hcs hfz
                  have hcx := Above.cells (B := w.heap.size + 1) (W := w.alloc (ah3 c ⟨some ⟨b, o, none⟩, pc, sa, sc⟩))
                  refine ahC (w.heap.size + 1) (w.alloc (ah3 c ⟨some ⟨b, o, none⟩, pc, sa, sc⟩)) (by kernel_rfl) (by kernel_rfl) hb2 ?_
                  repeat (go_big_quiet_step ((go_at_call 37; exact atJ (by simp) (akF c ⟨some ⟨b, o, none⟩, pc, sa, sc⟩ c.progs[k][j] _ h1 h2 hlen))))
                  refine wpQuiet_nil ?_
                  intro wq hbq
                  have hbq' : Below w.heap.size w wq := ((Below.refl _ _).alloc (Nat.le_refl _) _).trans (hbq.mono (by omega))
                  clear hcx
                  go_wp2
                  go_roundw
                  case rel => exact ⟨j + 1, by omega, by go_num, aj0 hjt hq hok, hbq⟩
                  case measure => simp [intOf]; omega
                · have hok' : ahx c.levels c.progs.length c.progs[k][j] = false := by simpa using hok
                  clear hok
                  have hres := Lib.hid (agy hlt hi (by omega) hjt hok')
                  go_wp2
                  clear hcs hfz
                  have hcx := Above.cells (B := w.heap.size + 1) (W := w.alloc (ah3 c ⟨some ⟨b, o, none⟩, pc, sa, sc⟩))
                  refine ahC (w.heap.size + 1) (w.alloc (ah3 c ⟨some ⟨b, o, none⟩, pc, sa, sc⟩)) (by kernel_rfl) (by kernel_rfl) hb2 ?_
                  repeat (go_big_quiet_step ((go_at_call 37; exact atJ (by simp) (akF c ⟨some ⟨b, o, none⟩, pc, sa, sc⟩ c.progs[k][j] _ h1 h2 hlen))))
                  refine wpQuiet_nil ?_
                  intro wq hbq
                  have hbq' : Below w.heap.size w wq := ((Below.refl _ _).alloc (Nat.le_refl _) _).trans (hbq.mono (by omega))
                  clear hcx
                  go_wp2
                  go_ret
                  exact ⟨ab9 (by rw [Hfin.out, hres.out]; simp), hbq'⟩
              · go_wp2
                go_roundw
                case rel => exact ⟨k + 1, by omega, by go_num, afS hlt hi (by omega) (by
                  have e : j = c.progs[k].length := by omega
                  subst e; exact hq), hb2⟩
                case measure => simp [intOf]; omega
        · have hi' : aaO c.levels c.progs.length (c.progs.drop k) = aaO c.levels c.progs.length c.progs := hi
          have hpz : aaO c.levels c.progs.length c.progs = 0 := by rw [← hi', List.drop_eq_nil_of_le (by omega)]; rfl
          have Hf2 : Hid (ab5 c = adH c) := by rw [Hfin.out, hpz]; exact if_neg (by simp)
          clear hi hi' hpz
          by_cases hp : 64 < c.subs.length
          · have hfin : adH c = 2 := by simp [adH, hp]
            have Hf3 := Lib.hid hfin
            clear hfin
            go_wp2
            go_ret
            exact ⟨ab9 (by rw [Hf2.out, Hf3.out]), hbw⟩
          · have hfin : adH c = acs c.levels c.progs.length c.subs := by simp [adH, hp]
            have Hf3 := Lib.hid hfin
            clear hfin
            go_wp2
            obtain ⟨wo, rfl⟩ : ∃ wo : World, wo = wr := ⟨_, rfl⟩
            clear hcs hfz
            go_loopw [5] (fun i wr => ∃ k : Nat, k ≤ c.subs.length ∧ i = .int .i64 k ∧ aAR c.levels c.progs.length c.subs k ∧ Below (w.heap.size + 1) (w.alloc (ah3 c l)) wr) (fun i _ => c.subs.length - (intOf i).toNat)
            case atStart => exact ⟨0, Nat.zero_le _, rfl, rfl, hb⟩
            case round =>
              clear hb hB hbw
              obtain ⟨m, hk, rfl, hi, hb⟩ := hrel
              have hB : w.heap.size < wr.heap.size := by have := hb.size; simp at this; omega
              have hbw : Below w.heap.size w wr := ((Below.refl _ _).alloc (Nat.le_refl _) _).trans (hb.mono (by omega))
              obtain ⟨hcs, hfz⟩ := ajY hb
              by_cases hlt : m < c.subs.length
              · obtain ⟨b, o, hpa, hbb, hcc⟩ := hc.2.at_ hlt
                obtain ⟨pa, pc, sa, sc⟩ := l
                obtain rfl : sa = some ⟨b, o, none⟩ := hpa
                have c0 : w.cell? ⟨b, o + m * 3, none⟩ = some (.int .i64 c.subs[m].prog) := hcc m hlt 0 _ rfl
                have c1 : w.cell? ⟨b, o + m * 3 + 1, none⟩ = some (.int .i64 c.subs[m].level) := hcc m hlt 1 _ rfl
                have c2 : w.cell? ⟨b, o + m * 3 + 2, none⟩ = some (.int .i64 c.subs[m].deadline) := hcc m hlt 2 _ rfl
                have hse : amO c.levels c.progs.length c.subs[m] = if !inB c.subs[m].prog 0 (c.progs.length - 1) then 3 else if !inB c.subs[m].level 0 (c.levels - 1) || !inB c.subs[m].deadline 0 16777215 then 1 else 0 := rfl
                have Hse := Lib.hid hse
                clear hse
                have bad := fun e he hne => Lib.hid (ahi (e := e) hlt hi he hne)
                by_cases g1 : inB c.subs[m].prog 0 (c.progs.length - 1) = true
                · by_cases g2 : inB c.subs[m].level 0 (c.levels - 1) = true
                  · by_cases g3 : inB c.subs[m].deadline 0 16777215 = true
                    · go_wp2_with (first | (go_at_call 36; refine (aew _ _ _ _).mono ?_; rintro e w' ⟨rfl, rfl⟩))
                      go_roundw
                      case rel => exact ⟨m + 1, by omega, by go_num, agl hlt hi (by rw [Hse.out]; simp [g1, g2, g3]), hb.alloc (by omega) _⟩
                      case measure => simp [intOf]; omega
                    · go_wp2_with (first | (go_at_call 36; refine (aew _ _ _ _).mono ?_; rintro e w' ⟨rfl, rfl⟩))
                      go_ret
                      exact ⟨ab9 (by rw [Hf2.out, Hf3.out, (bad 1 (by rw [Hse.out]; simp [g1, g2, g3]) (by omega)).out]), hbw.alloc (by omega) _⟩
                  · go_wp2_with (first | (go_at_call 36; refine (aew _ _ _ _).mono ?_; rintro e w' ⟨rfl, rfl⟩))
                    go_ret
                    exact ⟨ab9 (by rw [Hf2.out, Hf3.out, (bad 1 (by rw [Hse.out]; simp [g1, g2]) (by omega)).out]), hbw.alloc (by omega) _⟩
                · go_wp2_with (first | (go_at_call 36; refine (aew _ _ _ _).mono ?_; rintro e w' ⟨rfl, rfl⟩))
                  go_ret
                  exact ⟨ab9 (by rw [Hf2.out, Hf3.out, (bad 3 (by rw [Hse.out]; simp [g1]) (by omega)).out]), hbw.alloc (by omega) _⟩
              · go_wp2
                go_ret
                exact ⟨ab9 (by
                  have hi' : acs c.levels c.progs.length (c.subs.drop m) = acs c.levels c.progs.length c.subs := hi
                  rw [Hf2.out, Hf3.out, ← hi', List.drop_eq_nil_of_le (by omega)]; rfl), hbw⟩
    · have hfin : ab5 c = 2 := by simp [ab5, hn, abR, hp]
      have Hfin := Lib.hid hfin
      clear hfin
      unfold alm
      go_enter Tryz.func17, Tryz.ntmps17
      go_wp2_with fail
      refine (af3 c l _).mono ?_; rintro e w1 ⟨rfl, hb1⟩
      obtain ⟨hc1, hf1⟩ := ajY hb1
      have hw1 := ae4 hb1
      go_wp2_with fail
      refine (aew _ _ _ _).mono ?_; rintro e w2 ⟨rfl, rfl⟩
      go_wp2_with fail
      go_ret
      exact ⟨ab9 Hfin.out.symm, hw1⟩
  · have hfin : ab5 c = 1 := by simp [ab5, hn]
    have Hfin := Lib.hid hfin
    clear hfin
    unfold alm
    go_enter Tryz.func17, Tryz.ntmps17
    go_wp2_with fail
    refine (af3 c l _).mono ?_; rintro e w1 ⟨rfl, hb1⟩
    have hw1 := ae4 hb1
    go_wp2_with fail
    go_ret
    exact ⟨ab9 Hfin.out.symm, hw1⟩
end
section
open Go Go.RowKit
variable [Tb]
def aih (c : Cfg) : Option ((Int × Unit) × Unit) := some ((ab5 c, ()), ())
noncomputable abbrev akc : Con SR1 := ⟨17, [.val 13], [.sh sI_], fun x => aih x.1⟩
theorem alF : CO Tryz.prog akc := atB (by kernel_rfl) aoA
end
section
open Go Go.RowKit
set_option maxRecDepth 100000
variable [Tb]
abbrev avp (xs : List VwV) (i : Int) : VwV := atL (dfR 62 : TR 62) xs i
abbrev aaa (xs : List TkV) (i : Int) : TkV := atL (dfR 63 : TR 63) xs i
abbrev aab (xs : List WlV) (i : Int) : WlV := atL (dfR 64 : TR 64) xs i
abbrev aaT (xs : List KyV) (i : Int) : KyV := atL (dfR 65 : TR 65) xs i
noncomputable def abY (y0 : QuV) : Option ((Int × Unit) × (QuV × Unit)) :=
 (lpF (σ := Int × Int × QuV × Unit) (β := Int × Int × QuV × Unit) (fun self3 x1 =>
  if x1.2.1 < ((x1.2.2.1.keys.length : Nat) : Int) then
   if 0 ≤ x1.2.1 ∧ x1.2.1 < ((x1.2.2.1.keys.length : Nat) : Int) then
   if 0 ≤ x1.1 ∧ x1.1 < ((x1.2.2.1.keys.length : Nat) : Int) then
   agr (
   if ((aaT x1.2.2.1.keys x1.1).deadline) = ((aaT x1.2.2.1.keys x1.1).deadline) then
   if ((aaT x1.2.2.1.keys x1.1).arrival) = ((aaT x1.2.2.1.keys x1.1).arrival) then
   if ((aaT x1.2.2.1.keys x1.1).task) = ((aaT x1.2.2.1.keys x1.1).task) then
   if ((aaT x1.2.2.1.keys x1.2.1).deadline) = ((aaT x1.2.2.1.keys x1.2.1).deadline) then
   if ((aaT x1.2.2.1.keys x1.2.1).arrival) = ((aaT x1.2.2.1.keys x1.2.1).arrival) then
   if ((aaT x1.2.2.1.keys x1.2.1).task) = ((aaT x1.2.2.1.keys x1.2.1).task) then
   if ((aaT x1.2.2.1.keys x1.1).deadline) = ((aaT x1.2.2.1.keys x1.1).deadline) then
   if ((aaT x1.2.2.1.keys x1.1).arrival) = ((aaT x1.2.2.1.keys x1.1).arrival) then
   if ((aaT x1.2.2.1.keys x1.1).task) = ((aaT x1.2.2.1.keys x1.1).task) then
   if ((aaT x1.2.2.1.keys x1.2.1).deadline) = ((aaT x1.2.2.1.keys x1.2.1).deadline) then
   if ((aaT x1.2.2.1.keys x1.2.1).arrival) = ((aaT x1.2.2.1.keys x1.2.1).arrival) then
   if ((aaT x1.2.2.1.keys x1.2.1).task) = ((aaT x1.2.2.1.keys x1.2.1).task) then
   if ((aaT x1.2.2.1.keys x1.1).deadline) = ((aaT x1.2.2.1.keys x1.1).deadline) then
   if ((aaT x1.2.2.1.keys x1.1).arrival) = ((aaT x1.2.2.1.keys x1.1).arrival) then
   if ((aaT x1.2.2.1.keys x1.1).task) = ((aaT x1.2.2.1.keys x1.1).task) then
   if ((aaT x1.2.2.1.keys x1.2.1).deadline) < ((aaT x1.2.2.1.keys x1.1).deadline) then
   self3 (x1.2.1, wi (x1.2.1 + 1), x1.2.2.1, ())
   else
   if ((aaT x1.2.2.1.keys x1.2.1).deadline) = ((aaT x1.2.2.1.keys x1.1).deadline) then
   if ((aaT x1.2.2.1.keys x1.2.1).arrival) < ((aaT x1.2.2.1.keys x1.1).arrival) then
   self3 (x1.2.1, wi (x1.2.1 + 1), x1.2.2.1, ())
   else
   self3 (x1.1, wi (x1.2.1 + 1), x1.2.2.1, ())
   else
   self3 (x1.1, wi (x1.2.1 + 1), x1.2.2.1, ())
   else none
   else none
   else none
   else none
   else none
   else none
   else none
   else none
   else none
   else none
   else none
   else none
   else none
   else none
   else none
   ) (
   if ((aaT x1.2.2.1.keys x1.1).deadline) = ((aaT x1.2.2.1.keys x1.1).deadline) then
   if ((aaT x1.2.2.1.keys x1.1).arrival) = ((aaT x1.2.2.1.keys x1.1).arrival) then
   if ((aaT x1.2.2.1.keys x1.1).task) = ((aaT x1.2.2.1.keys x1.1).task) then
   if ((aaT x1.2.2.1.keys x1.2.1).deadline) = ((aaT x1.2.2.1.keys x1.2.1).deadline) then
   if ((aaT x1.2.2.1.keys x1.2.1).arrival) = ((aaT x1.2.2.1.keys x1.2.1).arrival) then
   if ((aaT x1.2.2.1.keys x1.2.1).task) = ((aaT x1.2.2.1.keys x1.2.1).task) then
   if ((aaT x1.2.2.1.keys x1.1).deadline) = ((aaT x1.2.2.1.keys x1.1).deadline) then
   if ((aaT x1.2.2.1.keys x1.1).arrival) = ((aaT x1.2.2.1.keys x1.1).arrival) then
   if ((aaT x1.2.2.1.keys x1.1).task) = ((aaT x1.2.2.1.keys x1.1).task) then
   if ((aaT x1.2.2.1.keys x1.2.1).deadline) = ((aaT x1.2.2.1.keys x1.2.1).deadline) then
   if ((aaT x1.2.2.1.keys x1.2.1).arrival) = ((aaT x1.2.2.1.keys x1.2.1).arrival) then
   if ((aaT x1.2.2.1.keys x1.2.1).task) = ((aaT x1.2.2.1.keys x1.2.1).task) then
   if ((aaT x1.2.2.1.keys x1.1).deadline) = ((aaT x1.2.2.1.keys x1.1).deadline) then
   if ((aaT x1.2.2.1.keys x1.1).arrival) = ((aaT x1.2.2.1.keys x1.1).arrival) then
   if ((aaT x1.2.2.1.keys x1.1).task) = ((aaT x1.2.2.1.keys x1.1).task) then
   if ((aaT x1.2.2.1.keys x1.2.1).deadline) < ((aaT x1.2.2.1.keys x1.1).deadline) then
   self3 (x1.2.1, wi (x1.2.1 + 1), x1.2.2.1, ())
   else
   if ((aaT x1.2.2.1.keys x1.2.1).deadline) = ((aaT x1.2.2.1.keys x1.1).deadline) then
   if ((aaT x1.2.2.1.keys x1.2.1).arrival) < ((aaT x1.2.2.1.keys x1.1).arrival) then
   self3 (x1.2.1, wi (x1.2.1 + 1), x1.2.2.1, ())
   else
   self3 (x1.1, wi (x1.2.1 + 1), x1.2.2.1, ())
   else
   self3 (x1.1, wi (x1.2.1 + 1), x1.2.2.1, ())
   else none
   else none
   else none
   else none
   else none
   else none
   else none
   else none
   else none
   else none
   else none
   else none
   else none
   else none
   else none
   )
   else none
   else none
  else
  some (x1.1, x1.2.1, x1.2.2.1, ())
 ) 18446744073709551616 (0, 1, y0, ())).bind fun z2 =>
 some ((z2.1, ()), (z2.2.2.1, ()))
noncomputable abbrev acI : Con SR1 := ⟨105, [.ref 67], [.sh sI_], fun x => abY x.1⟩
theorem aeG : CO Tryz.prog acI := aas aar Tryz.func105 [] trivial [] trivial (fun _ => []) [(3, .loop [.rg 3 sI_, .rg 4 sI_, .ob 0 67] 18446744073709551616 0)] fun x => by kernel_rfl
noncomputable def aa5 (y0 : QuV) : Option ((Int × Unit) × (QuV × Unit)) :=
 (lpF (σ := Int × Int × QuV × Unit) (β := Int × Int × QuV × Unit) (fun self3 x1 =>
  if x1.2.1 < ((x1.2.2.1.keys.length : Nat) : Int) then
   if 0 ≤ x1.2.1 ∧ x1.2.1 < ((x1.2.2.1.keys.length : Nat) : Int) then
   if 0 ≤ x1.1 ∧ x1.1 < ((x1.2.2.1.keys.length : Nat) : Int) then
   if ((aaT x1.2.2.1.keys x1.2.1).deadline) < ((aaT x1.2.2.1.keys x1.1).deadline) then
   self3 (x1.2.1, wi (x1.2.1 + 1), x1.2.2.1, ())
   else
   if ((aaT x1.2.2.1.keys x1.2.1).deadline) = ((aaT x1.2.2.1.keys x1.1).deadline) then
   if ((aaT x1.2.2.1.keys x1.2.1).arrival) < ((aaT x1.2.2.1.keys x1.1).arrival) then
   self3 (x1.2.1, wi (x1.2.1 + 1), x1.2.2.1, ())
   else
   self3 (x1.1, wi (x1.2.1 + 1), x1.2.2.1, ())
   else
   self3 (x1.1, wi (x1.2.1 + 1), x1.2.2.1, ())
   else none
   else none
  else
  some (x1.1, x1.2.1, x1.2.2.1, ())
 ) 18446744073709551616 (0, 1, y0, ())).bind fun z2 =>
 some ((z2.1, ()), (z2.2.2.1, ()))
noncomputable abbrev adm : Con SR1 := ⟨105, [.ref 67], [.sh sI_], fun x => aa5 x.1⟩
theorem afh (y0 : QuV) : abY y0 = aa5 y0 := by
  unfold abY aa5
  simp only [if_true, ahg, aei]
theorem afg : CO Tryz.prog adm := aqd aeG fun x out hx => (show acI.spec x = some out from (afh x.1).trans hx)
noncomputable def ab0 (y0 : QuV) (y1 : Cfg) (y2 : Ev) : Option ((Bool × Unit) × (QuV × Unit)) :=
 if y2.kind = 1 then
  ((
   if y2.other < 0 then
   some (true, y0, ())
   else
   if ((y1.subs.length : Nat) : Int) ≤ y2.other then
   some (true, y0, ())
   else
   some (decide (y1.heap ≤ ((y0.keys.length : Nat) : Int)), y0, ())
  ) : Option (Bool × QuV × Unit)).bind fun z1 =>
  if z1.1 = true then
   some ((false, ()), (z1.2.1, ()))
  else
  if 0 ≤ y2.other ∧ y2.other < ((y1.subs.length : Nat) : Int) then
   agr (
   if y2.task = y2.task then
   if z1.2.1.count = z1.2.1.count then
   if ((akO y1.subs y2.other).deadline) = ((akO y1.subs y2.other).deadline) then
   if y2.other = y2.other then
   agr (
   if (((([] : List KyV).length + z1.2.1.keys.length : Nat)) : Int) < 1000000000000 then
   if y2.task = y2.task then
   if z1.2.1.count = z1.2.1.count then
   if ((akO y1.subs y2.other).deadline) = ((akO y1.subs y2.other).deadline) then
   if y2.other = y2.other then
   if ((((([]) ++ z1.2.1.keys).length + ([(⟨(akO y1.subs y2.other).deadline, z1.2.1.count, y2.task⟩ : KyV)] : List KyV).length : Nat)) : Int) < 1000000000000 then
   some ((true, ()), ((⟨(([]) ++ z1.2.1.keys) ++ ([(⟨(akO y1.subs y2.other).deadline, z1.2.1.count, y2.task⟩ : KyV)]), wi (z1.2.1.count + 1)⟩ : QuV), ()))
   else none
   else none
   else none
   else none
   else none
   else none
   ) (
   if (((([] : List KyV).length + z1.2.1.keys.length : Nat)) : Int) < 1000000000000 then
   if y2.task = y2.task then
   if z1.2.1.count = z1.2.1.count then
   if ((akO y1.subs y2.other).deadline) = ((akO y1.subs y2.other).deadline) then
   if y2.other = y2.other then
   if ((((([]) ++ z1.2.1.keys).length + ([(⟨(akO y1.subs y2.other).deadline, z1.2.1.count, y2.task⟩ : KyV)] : List KyV).length : Nat)) : Int) < 1000000000000 then
   some ((true, ()), ((⟨(([]) ++ z1.2.1.keys) ++ ([(⟨(akO y1.subs y2.other).deadline, z1.2.1.count, y2.task⟩ : KyV)]), wi (z1.2.1.count + 1)⟩ : QuV), ()))
   else none
   else none
   else none
   else none
   else none
   else none
   )
   else none
   else none
   else none
   else none
   ) (
   if y2.task = y2.task then
   if z1.2.1.count = z1.2.1.count then
   if ((akO y1.subs y2.other).deadline) = ((akO y1.subs y2.other).deadline) then
   if y2.other = y2.other then
   if (((([] : List KyV).length + z1.2.1.keys.length : Nat)) : Int) < 1000000000000 then
   if y2.task = y2.task then
   if z1.2.1.count = z1.2.1.count then
   if ((akO y1.subs y2.other).deadline) = ((akO y1.subs y2.other).deadline) then
   if y2.other = y2.other then
   if ((((([]) ++ z1.2.1.keys).length + ([(⟨(akO y1.subs y2.other).deadline, z1.2.1.count, y2.task⟩ : KyV)] : List KyV).length : Nat)) : Int) < 1000000000000 then
   some ((true, ()), ((⟨(([]) ++ z1.2.1.keys) ++ ([(⟨(akO y1.subs y2.other).deadline, z1.2.1.count, y2.task⟩ : KyV)]), wi (z1.2.1.count + 1)⟩ : QuV), ()))
   else none
   else none
   else none
   else none
   else none
   else none
   else none
   else none
   else none
   else none
   )
  else none
 else
 if y2.kind = 13 then
  if ((y0.keys.length : Nat) : Int) = 0 then
   some ((false, ()), (y0, ()))
  else
  (aa5 y0).bind fun r2 =>
  if 0 ≤ r2.1.1 ∧ r2.1.1 < ((r2.2.1.keys.length : Nat) : Int) then
   if ((aaT r2.2.1.keys r2.1.1).task) ≠ y2.task then
   some ((false, ()), (r2.2.1, ()))
   else
   if 0 ≤ r2.1.1 ∧ r2.1.1 ≤ ((r2.2.1.keys.length : Nat) : Int) then
   if 0 ≤ wi (r2.1.1 + 1) ∧ wi (r2.1.1 + 1) ≤ ((r2.2.1.keys.length : Nat) : Int) then
   if (((([] : List KyV).length + (r2.2.1.keys.take (r2.1.1 : Int).toNat).length : Nat)) : Int) < 1000000000000 then
   if ((((([]) ++ (r2.2.1.keys.take (r2.1.1 : Int).toNat)).length + (r2.2.1.keys.drop (wi (r2.1.1 + 1) : Int).toNat).length : Nat)) : Int) < 1000000000000 then
   some ((true, ()), ((⟨(([]) ++ (r2.2.1.keys.take (r2.1.1 : Int).toNat)) ++ (r2.2.1.keys.drop (wi (r2.1.1 + 1) : Int).toNat), r2.2.1.count⟩ : QuV), ()))
   else none
   else none
   else none
   else none
  else none
 else
 if y2.kind = 2 then
  if y2.level ≠ 1 then
   some ((true, ()), (y0, ()))
  else
  some ((decide (((y0.keys.length : Nat) : Int) = y1.heap), ()), (y0, ()))
 else
 some ((true, ()), (y0, ()))
noncomputable abbrev acJ : Con SR1 := ⟨95, [.ref 67, .val 13, .val 2], [.sh .b], fun x => ab0 x.1 x.2.1 x.2.2.1⟩
theorem aeH : CO Tryz.prog acJ := aas aar Tryz.func95 [adm] ⟨afg, trivial⟩ [] trivial (fun _ => []) [(4, .cut [.rg 32 .b, .ob 0 67] [10, 11, 17, 18])] fun x => by kernel_rfl
noncomputable def aa6 (y0 : QuV) (y1 : Cfg) (y2 : Ev) : Option ((Bool × Unit) × (QuV × Unit)) :=
 if y2.kind = 1 then
  ((
   if y2.other < 0 then
   some (true, y0, ())
   else
   if ((y1.subs.length : Nat) : Int) ≤ y2.other then
   some (true, y0, ())
   else
   some (decide (y1.heap ≤ ((y0.keys.length : Nat) : Int)), y0, ())
  ) : Option (Bool × QuV × Unit)).bind fun z1 =>
  if z1.1 = true then
   some ((false, ()), (z1.2.1, ()))
  else
  if 0 ≤ y2.other ∧ y2.other < ((y1.subs.length : Nat) : Int) then
   if (((([] : List KyV).length + z1.2.1.keys.length : Nat)) : Int) < 1000000000000 then
   if ((((([]) ++ z1.2.1.keys).length + ([(⟨(akO y1.subs y2.other).deadline, z1.2.1.count, y2.task⟩ : KyV)] : List KyV).length : Nat)) : Int) < 1000000000000 then
   some ((true, ()), ((⟨(([]) ++ z1.2.1.keys) ++ ([(⟨(akO y1.subs y2.other).deadline, z1.2.1.count, y2.task⟩ : KyV)]), wi (z1.2.1.count + 1)⟩ : QuV), ()))
   else none
   else none
  else none
 else
 if y2.kind = 13 then
  if ((y0.keys.length : Nat) : Int) = 0 then
   some ((false, ()), (y0, ()))
  else
  (aa5 y0).bind fun r2 =>
  if 0 ≤ r2.1.1 ∧ r2.1.1 < ((r2.2.1.keys.length : Nat) : Int) then
   if ((aaT r2.2.1.keys r2.1.1).task) ≠ y2.task then
   some ((false, ()), (r2.2.1, ()))
   else
   if 0 ≤ r2.1.1 ∧ r2.1.1 ≤ ((r2.2.1.keys.length : Nat) : Int) then
   if 0 ≤ wi (r2.1.1 + 1) ∧ wi (r2.1.1 + 1) ≤ ((r2.2.1.keys.length : Nat) : Int) then
   if (((([] : List KyV).length + (r2.2.1.keys.take (r2.1.1 : Int).toNat).length : Nat)) : Int) < 1000000000000 then
   if ((((([]) ++ (r2.2.1.keys.take (r2.1.1 : Int).toNat)).length + (r2.2.1.keys.drop (wi (r2.1.1 + 1) : Int).toNat).length : Nat)) : Int) < 1000000000000 then
   some ((true, ()), ((⟨(([]) ++ (r2.2.1.keys.take (r2.1.1 : Int).toNat)) ++ (r2.2.1.keys.drop (wi (r2.1.1 + 1) : Int).toNat), r2.2.1.count⟩ : QuV), ()))
   else none
   else none
   else none
   else none
  else none
 else
 if y2.kind = 2 then
  if y2.level ≠ 1 then
   some ((true, ()), (y0, ()))
  else
  some ((decide (((y0.keys.length : Nat) : Int) = y1.heap), ()), (y0, ()))
 else
 some ((true, ()), (y0, ()))
noncomputable abbrev abZ : Con SR1 := ⟨95, [.ref 67, .val 13, .val 2], [.sh .b], fun x => aa6 x.1 x.2.1 x.2.2.1⟩
theorem afi (y0 : QuV) (y1 : Cfg) (y2 : Ev) : ab0 y0 y1 y2 = aa6 y0 y1 y2 := by
  unfold ab0 aa6
  simp only [if_true, ahg, aei]
theorem acV : CO Tryz.prog abZ := aqd aeH fun x out hx => (show acJ.spec x = some out from (afi x.1 x.2.1 x.2.2.1).trans hx)
noncomputable def abj (y0 : Cfg) : Option ((SaV × Unit) × (Unit)) :=
 (lpF (σ := Int × SaV × Unit) (β := Int × SaV × Unit) (fun self3 x1 =>
  if x1.1 < y0.tasks then
   if (((x1.2.1.tasks.length + ([(⟨⟨0, (-1), (-1), (-1), (-1)⟩, 0, 0, []⟩ : TkV)] : List TkV).length : Nat)) : Int) < 100000000000 then
   self3 (wi (x1.1 + 1), ({ x1.2.1 with tasks := x1.2.1.tasks ++ ([(⟨⟨0, (-1), (-1), (-1), (-1)⟩, 0, 0, []⟩ : TkV)]) } : SaV), ())
   else none
  else
  some (x1.1, x1.2.1, ())
 ) 18446744073709551616 (0, (⟨y0, [], [], ⟨[], 0⟩, 0⟩ : SaV), ())).bind fun z2 =>
 (lpF (σ := Int × SaV × Unit) (β := Int × SaV × Unit) (fun self6 x4 =>
  if x4.1 < y0.workers then
   if (((x4.2.1.works.length + ([(⟨[], (-1), 0, 0, false, ⟨0, 0, 0, 0, 0⟩⟩ : WlV)] : List WlV).length : Nat)) : Int) < 100000000000 then
   self6 (wi (x4.1 + 1), ({ x4.2.1 with works := x4.2.1.works ++ ([(⟨[], (-1), 0, 0, false, ⟨0, 0, 0, 0, 0⟩⟩ : WlV)]) } : SaV), ())
   else none
  else
  some (x4.1, x4.2.1, ())
 ) 18446744073709551616 (0, z2.2.1, ())).bind fun z5 =>
 some ((z5.2.1, ()), (()))
noncomputable abbrev aff : Con SR1 := ⟨56, [.val 13], [.sh (.own 66)], fun x => abj x.1⟩
theorem air : CO Tryz.prog aff := aas aar Tryz.func56 [] trivial [] trivial (fun _ => []) [(3, .loop [.rg 4 sI_, .rg 3 (.own 66)] 18446744073709551616 0), (7, .loop [.rg 5 sI_, .rg 3 (.own 66)] 18446744073709551616 2)] fun x => by kernel_rfl
noncomputable def aaQ (y0 : SaV) : Option ((Int × Unit) × (SaV × Unit)) :=
 (lpF (σ := Int × Int × SaV × Unit) (β := Int × Int × SaV × Unit) (fun self3 x1 =>
  if x1.2.1 < ((x1.2.2.1.tasks.length : Nat) : Int) then
   if 0 ≤ x1.2.1 ∧ x1.2.1 < ((x1.2.2.1.tasks.length : Nat) : Int) then
   if ((aaa x1.2.2.1.tasks x1.2.1).view.phase) ≠ 0 then
   self3 (wi (x1.1 + 1), wi (x1.2.1 + 1), x1.2.2.1, ())
   else
   self3 (x1.1, wi (x1.2.1 + 1), x1.2.2.1, ())
   else none
  else
  some (x1.1, x1.2.1, x1.2.2.1, ())
 ) 18446744073709551616 (0, 0, y0, ())).bind fun z2 =>
 some ((z2.1, ()), (z2.2.2.1, ()))
noncomputable abbrev abV : Con SR1 := ⟨98, [.ref 66], [.sh sI_], fun x => aaQ x.1⟩
theorem acS : CO Tryz.prog abV := aas aar Tryz.func98 [] trivial [] trivial (fun _ => []) [(3, .loop [.rg 3 sI_, .rg 4 sI_, .ob 0 66] 18446744073709551616 0)] fun x => by kernel_rfl
noncomputable def afN (y0 : Int) : Option ((Bool × Bool × Bool × Bool × Unit) × (Unit)) :=
 if y0 = 1 then
  some ((true, true, true, false, ()), (()))
 else
 if y0 = 2 then
  some ((false, true, true, false, ()), (()))
 else
 if y0 = 3 then
  some ((true, true, true, true, ()), (()))
 else
 ((
  if y0 = 6 then
   some (decide (y0 = 6), ())
  else
  some (decide (y0 = 8), ())
 ) : Option (Bool × Unit)).bind fun z1 =>
 if z1.1 = true then
  some ((true, true, false, true, ()), (()))
 else
 ((
  if y0 = 7 then
   some (decide (y0 = 7), ())
  else
  if y0 = 11 then
   some (decide (y0 = 11), ())
  else
  if y0 = 12 then
   some (decide (y0 = 12), ())
  else
  some (decide (y0 = 19), ())
 ) : Option (Bool × Unit)).bind fun z2 =>
 if z2.1 = true then
  some ((true, false, true, false, ()), (()))
 else
 if y0 = 14 then
  some ((true, true, true, false, ()), (()))
 else
 if y0 = 16 then
  some ((false, false, false, false, ()), (()))
 else
 ((
  if y0 = 17 then
   some (decide (y0 = 17), ())
  else
  some (decide (y0 = 18), ())
 ) : Option (Bool × Unit)).bind fun z3 =>
 if z3.1 = true then
  some ((false, true, false, false, ()), (()))
 else
 some ((true, false, false, false, ()), (()))
noncomputable abbrev aeK : Con SR1 := ⟨86, [.sh sI_], [.sh .b, .sh .b, .sh .b, .sh .b], fun x => afN x.1⟩
theorem ahE : CO Tryz.prog aeK := aas aar Tryz.func86 [] trivial [] trivial (fun _ => []) [(10, .cut [.rg 13 .b] []), (15, .cut [.rg 16 .b] []), (22, .cut [.rg 25 .b] [])] fun x => by kernel_rfl
noncomputable def aaL (y0 : SaV) (y1 : Ev) : Option ((Bool × Unit) × (SaV × Unit)) :=
 if y1.kind < 1 then
  some ((false, ()), (y0, ()))
 else
 if 19 < y1.kind then
  some ((false, ()), (y0, ()))
 else
 (afN y1.kind).bind fun r1 =>
 ((
  if r1.1.1 = true then
   if 0 ≤ y1.task then
   if ¬ (y1.task < ((y0.tasks.length : Nat) : Int)) then
   some (true, y0, ())
   else
   if (!r1.1.1) = true then
   if y1.task ≠ 0 then
   some (true, y0, ())
   else
   if (!r1.1.2.1) = true then
   if y1.other ≠ 0 then
   some (true, y0, ())
   else
   if r1.1.2.2.2.1 = true then
   if 0 ≤ y1.other then
   if ¬ (y1.other < ((y0.tasks.length : Nat) : Int)) then
   some (true, y0, ())
   else
   if (!r1.1.2.2.1) = true then
   some (decide (y1.level ≠ 0), y0, ())
   else
   some (false, y0, ())
   else
   some (true, y0, ())
   else
   if (!r1.1.2.2.1) = true then
   some (decide (y1.level ≠ 0), y0, ())
   else
   some (false, y0, ())
   else
   if r1.1.2.2.2.1 = true then
   if 0 ≤ y1.other then
   if ¬ (y1.other < ((y0.tasks.length : Nat) : Int)) then
   some (true, y0, ())
   else
   if (!r1.1.2.2.1) = true then
   some (decide (y1.level ≠ 0), y0, ())
   else
   some (false, y0, ())
   else
   some (true, y0, ())
   else
   if (!r1.1.2.2.1) = true then
   some (decide (y1.level ≠ 0), y0, ())
   else
   some (false, y0, ())
   else
   if (!r1.1.2.1) = true then
   if y1.other ≠ 0 then
   some (true, y0, ())
   else
   if r1.1.2.2.2.1 = true then
   if 0 ≤ y1.other then
   if ¬ (y1.other < ((y0.tasks.length : Nat) : Int)) then
   some (true, y0, ())
   else
   if (!r1.1.2.2.1) = true then
   some (decide (y1.level ≠ 0), y0, ())
   else
   some (false, y0, ())
   else
   some (true, y0, ())
   else
   if (!r1.1.2.2.1) = true then
   some (decide (y1.level ≠ 0), y0, ())
   else
   some (false, y0, ())
   else
   if r1.1.2.2.2.1 = true then
   if 0 ≤ y1.other then
   if ¬ (y1.other < ((y0.tasks.length : Nat) : Int)) then
   some (true, y0, ())
   else
   if (!r1.1.2.2.1) = true then
   some (decide (y1.level ≠ 0), y0, ())
   else
   some (false, y0, ())
   else
   some (true, y0, ())
   else
   if (!r1.1.2.2.1) = true then
   some (decide (y1.level ≠ 0), y0, ())
   else
   some (false, y0, ())
   else
   some (true, y0, ())
  else
  if (!r1.1.1) = true then
   if y1.task ≠ 0 then
   some (true, y0, ())
   else
   if (!r1.1.2.1) = true then
   if y1.other ≠ 0 then
   some (true, y0, ())
   else
   if r1.1.2.2.2.1 = true then
   if 0 ≤ y1.other then
   if ¬ (y1.other < ((y0.tasks.length : Nat) : Int)) then
   some (true, y0, ())
   else
   if (!r1.1.2.2.1) = true then
   some (decide (y1.level ≠ 0), y0, ())
   else
   some (false, y0, ())
   else
   some (true, y0, ())
   else
   if (!r1.1.2.2.1) = true then
   some (decide (y1.level ≠ 0), y0, ())
   else
   some (false, y0, ())
   else
   if r1.1.2.2.2.1 = true then
   if 0 ≤ y1.other then
   if ¬ (y1.other < ((y0.tasks.length : Nat) : Int)) then
   some (true, y0, ())
   else
   if (!r1.1.2.2.1) = true then
   some (decide (y1.level ≠ 0), y0, ())
   else
   some (false, y0, ())
   else
   some (true, y0, ())
   else
   if (!r1.1.2.2.1) = true then
   some (decide (y1.level ≠ 0), y0, ())
   else
   some (false, y0, ())
  else
  if (!r1.1.2.1) = true then
   if y1.other ≠ 0 then
   some (true, y0, ())
   else
   if r1.1.2.2.2.1 = true then
   if 0 ≤ y1.other then
   if ¬ (y1.other < ((y0.tasks.length : Nat) : Int)) then
   some (true, y0, ())
   else
   if (!r1.1.2.2.1) = true then
   some (decide (y1.level ≠ 0), y0, ())
   else
   some (false, y0, ())
   else
   some (true, y0, ())
   else
   if (!r1.1.2.2.1) = true then
   some (decide (y1.level ≠ 0), y0, ())
   else
   some (false, y0, ())
  else
  if r1.1.2.2.2.1 = true then
   if 0 ≤ y1.other then
   if ¬ (y1.other < ((y0.tasks.length : Nat) : Int)) then
   some (true, y0, ())
   else
   if (!r1.1.2.2.1) = true then
   some (decide (y1.level ≠ 0), y0, ())
   else
   some (false, y0, ())
   else
   some (true, y0, ())
  else
  if (!r1.1.2.2.1) = true then
   some (decide (y1.level ≠ 0), y0, ())
  else
  some (false, y0, ())
 ) : Option (Bool × SaV × Unit)).bind fun z2 =>
 if z2.1 = true then
  some ((false, ()), (z2.2.1, ()))
 else
 ((
  if r1.1.2.2.1 = true then
   if y1.kind ≠ 2 then
   if y1.level < 0 then
   some (true, z2.2.1, ())
   else
   some (decide (z2.2.1.c.levels ≤ y1.level), z2.2.1, ())
   else
   some (false, z2.2.1, ())
  else
  some (false, z2.2.1, ())
 ) : Option (Bool × SaV × Unit)).bind fun z3 =>
 if z3.1 = true then
  some ((false, ()), (z3.2.1, ()))
 else
 if y1.worker = z3.2.1.c.workers then
  if y1.kind = 1 then
   some ((true, ()), (z3.2.1, ()))
  else
  if y1.kind = 2 then
   some ((true, ()), (z3.2.1, ()))
  else
  some ((decide (y1.kind = 18), ()), (z3.2.1, ()))
 else
 if 0 ≤ y1.worker then
  if y1.worker < z3.2.1.c.workers then
   if 0 ≤ y1.worker ∧ y1.worker < ((z3.2.1.works.length : Nat) : Int) then
   some ((decide (((aab z3.2.1.works y1.worker).sleeps) = (decide (y1.kind = 17))), ()), (({ z3.2.1 with works := z3.2.1.works.set y1.worker.toNat (aab z3.2.1.works y1.worker) } : SaV), ()))
   else none
  else
  some ((false, ()), (z3.2.1, ()))
 else
 some ((false, ()), (z3.2.1, ()))
noncomputable abbrev adt : Con SR1 := ⟨78, [.ref 66, .val 2], [.sh .b], fun x => aaL x.1 x.2.1⟩
noncomputable def afJ : List (Nat × Func) := [(87, Tryz.f87)]
theorem afK : CO Tryz.prog adt := aas aar Tryz.func78 [aeK] ⟨ahE, trivial⟩ afJ ⟨Tryz.func87, trivial⟩ (fun _ => []) [(5, .cut [.rg 69 .b, .ob 0 66] [6]), (7, .cut [.rg 90 .b, .ob 0 66] [6])] fun x => by kernel_rfl
noncomputable def aak (y0 : SaV) (y1 : Int) : Option ((Ins × Bool × Unit) × (SaV × Unit)) :=
 if 0 ≤ y1 ∧ y1 < ((y0.tasks.length : Nat) : Int) then
  if 0 ≤ (aaa y0.tasks y1).prog ∧ (aaa y0.tasks y1).prog < ((y0.c.progs.length : Nat) : Int) then
   (lpF (σ := List TkV × Ins × Unit) (β := (List TkV × Ins × Unit) ⊕ ((Ins × Bool × Unit) × (SaV × Unit))) (fun self3 x1 =>
   if ((aaa x1.1 y1).pc) < (((atL [] y0.c.progs ((aaa y0.tasks y1).prog)).length : Nat) : Int) then
   if 0 ≤ (aaa x1.1 y1).pc ∧ (aaa x1.1 y1).pc < (((atL [] y0.c.progs ((aaa y0.tasks y1).prog)).length : Nat) : Int) then
   if ((abb (atL [] y0.c.progs ((aaa y0.tasks y1).prog)) ((aaa x1.1 y1).pc)).op) = 1 then
   Option.map Sum.inr (
   some ((abb (atL [] y0.c.progs ((aaa y0.tasks y1).prog)) ((aaa x1.1 y1).pc), true, ()), (({ y0 with tasks := x1.1 } : SaV), ()))
   )
   else
   if ((abb (atL [] y0.c.progs ((aaa y0.tasks y1).prog)) ((aaa x1.1 y1).pc)).op) = 2 then
   if ((abb (atL [] y0.c.progs ((aaa y0.tasks y1).prog)) ((aaa x1.1 y1).pc)).a) < ((((aaa x1.1 y1).kids).length : Nat) : Int) then
   if 0 ≤ (abb (atL [] y0.c.progs ((aaa y0.tasks y1).prog)) ((aaa x1.1 y1).pc)).a ∧ (abb (atL [] y0.c.progs ((aaa y0.tasks y1).prog)) ((aaa x1.1 y1).pc)).a < ((((aaa x1.1 y1).kids).length : Nat) : Int) then
   if (aaf ((aaa x1.1 y1).kids) ((abb (atL [] y0.c.progs ((aaa y0.tasks y1).prog)) ((aaa x1.1 y1).pc)).a)) ≠ (-1) then
   Option.map Sum.inr (
   some ((abb (atL [] y0.c.progs ((aaa y0.tasks y1).prog)) ((aaa x1.1 y1).pc), true, ()), (({ y0 with tasks := x1.1.set y1.toNat (aaa x1.1 y1) } : SaV), ()))
   )
   else
   self3 (x1.1.set y1.toNat ({ aaa x1.1 y1 with pc := wi (((aaa x1.1 y1).pc) + 1) } : TkV), x1.2.1, ())
   else none
   else
   self3 (x1.1.set y1.toNat ({ aaa x1.1 y1 with pc := wi (((aaa x1.1 y1).pc) + 1) } : TkV), x1.2.1, ())
   else
   self3 (x1.1.set y1.toNat ({ aaa x1.1 y1 with pc := wi (((aaa x1.1 y1).pc) + 1) } : TkV), x1.2.1, ())
   else none
   else
   some (Sum.inl (x1.1, x1.2.1, ()))
   ) 18446744073709551616 (y0.tasks.set y1.toNat (aaa y0.tasks y1), (⟨0, 0, 0⟩ : Ins), ())).bind fun z2 => match z2 with
   | .inr o4 => some o4
   | .inl z2 =>
   some (((⟨0, 0, 0⟩ : Ins), false, ()), (({ y0 with tasks := z2.1 } : SaV), ()))
  else none
 else none
noncomputable abbrev aa9 : Con SR1 := ⟨101, [.ref 66, .sh sI_], [.val 3, .sh .b], fun x => aak x.1 x.2.1⟩
theorem abE : CO Tryz.prog aa9 := aas aar Tryz.func101 [] trivial [] trivial (fun _ => []) [(3, .loopR [.rw 3 63, .ob 1000004 3] 18446744073709551616 0)] fun x => by kernel_rfl
noncomputable def aav (y0 : SaV) (y1 : Int) (y2 : Int) : Option ((Bool × Unit) × (SaV × Unit)) :=
 if y1 < 0 then
  some ((false, ()), (y0, ()))
 else
 if ((y0.works.length : Nat) : Int) ≤ y1 then
  some ((false, ()), (y0, ()))
 else
 if 0 ≤ y1 ∧ y1 < ((y0.works.length : Nat) : Int) then
  if 0 < ((((aab y0.works y1).stack).length : Nat) : Int) then
   if 0 ≤ wi (((((aab y0.works y1).stack).length : Nat) : Int) - 1) ∧ wi (((((aab y0.works y1).stack).length : Nat) : Int) - 1) < ((((aab y0.works y1).stack).length : Nat) : Int) then
   some ((decide ((aaf ((aab y0.works y1).stack) (wi (((((aab y0.works y1).stack).length : Nat) : Int) - 1))) = y2), ()), (({ y0 with works := y0.works.set y1.toNat (aab y0.works y1) } : SaV), ()))
   else none
  else
  some ((false, ()), (({ y0 with works := y0.works.set y1.toNat (aab y0.works y1) } : SaV), ()))
 else none
noncomputable abbrev abn : Con SR1 := ⟨100, [.ref 66, .sh sI_, .sh sI_], [.sh .b], fun x => aav x.1 x.2.1 x.2.2.1⟩
theorem abT : CO Tryz.prog abn := aas aar Tryz.func100 [] trivial [] trivial (fun _ => []) [] fun x => by kernel_rfl
noncomputable def abI (y0 : SaV) (y1 : Int) : Option ((Bool × Unit) × (SaV × Unit)) :=
 if 0 ≤ y1 then
  if y1 < ((y0.works.length : Nat) : Int) then
   if 0 ≤ y1 ∧ y1 < ((y0.works.length : Nat) : Int) then
   if ((((aab y0.works y1).stack).length : Nat) : Int) = 0 then
   if 0 ≤ y1 ∧ y1 < (((y0.works.set y1.toNat (aab y0.works y1)).length : Nat) : Int) then
   some ((decide (((aab (y0.works.set y1.toNat (aab y0.works y1)) y1).walk) = (-1)), ()), (({ y0 with works := y0.works.set y1.toNat (aab y0.works y1) } : SaV), ()))
   else none
   else
   some ((false, ()), (({ y0 with works := y0.works.set y1.toNat (aab y0.works y1) } : SaV), ()))
   else none
  else
  some ((false, ()), (y0, ()))
 else
 some ((false, ()), (y0, ()))
noncomputable abbrev ads : Con SR1 := ⟨94, [.ref 66, .sh sI_], [.sh .b], fun x => abI x.1 x.2.1⟩
theorem afI : CO Tryz.prog ads := aas aar Tryz.func94 [] trivial [] trivial (fun _ => []) [] fun x => by kernel_rfl
noncomputable def aaX (y0 : SaV) (y1 : Int) (y2 : Int) (y3 : Int) (y4 : Int) : Option ((Unit) × (SaV × Unit)) :=
 if 0 ≤ y1 ∧ y1 < ((y0.tasks.length : Nat) : Int) then
  some ((()), (({ y0 with tasks := y0.tasks.set y1.toNat (⟨⟨1, y2, y4, (-1), (-1)⟩, y3, 0, []⟩ : TkV) } : SaV), ()))
 else none
noncomputable abbrev abW : Con SR1 := ⟨99, [.ref 66, .sh sI_, .sh sI_, .sh sI_, .sh sI_], [], fun x => aaX x.1 x.2.1 x.2.2.1 x.2.2.2.1 x.2.2.2.2.1⟩
theorem acU : CO Tryz.prog abW := aas aar Tryz.func99 [] trivial [] trivial (fun _ => []) [] fun x => by kernel_rfl
noncomputable def ab6 (y0 : SaV) (y1 : Int) (y2 : Int) : Option ((Unit) × (SaV × Unit)) :=
 if 0 ≤ y2 ∧ y2 < ((y0.tasks.length : Nat) : Int) then
  if 0 ≤ y2 ∧ y2 < (((y0.tasks.set y2.toNat ({ aaa y0.tasks y2 with view := { (aaa y0.tasks y2).view with phase := 2 } } : TkV)).length : Nat) : Int) then
   if 0 ≤ y2 ∧ y2 < ((((y0.tasks.set y2.toNat ({ aaa y0.tasks y2 with view := { (aaa y0.tasks y2).view with phase := 2 } } : TkV)).set y2.toNat ({ aaa (y0.tasks.set y2.toNat ({ aaa y0.tasks y2 with view := { (aaa y0.tasks y2).view with phase := 2 } } : TkV)) y2 with view := { (aaa (y0.tasks.set y2.toNat ({ aaa y0.tasks y2 with view := { (aaa y0.tasks y2).view with phase := 2 } } : TkV)) y2).view with worker := y1 } } : TkV)).length : Nat) : Int) then
   if 0 ≤ y1 ∧ y1 < ((y0.works.length : Nat) : Int) then
   agr (
   agr (
   if (((([] : List Int).length + ((aab y0.works y1).stack).length : Nat)) : Int) < 1000000000000 then
   if ((((([]) ++ ((aab y0.works y1).stack)).length + ([y2] : List Int).length : Nat)) : Int) < 1000000000000 then
   if 0 ≤ y1 ∧ y1 < (((y0.works.set y1.toNat (aab y0.works y1)).length : Nat) : Int) then
   some ((()), (({ y0 with tasks := ((y0.tasks.set y2.toNat ({ aaa y0.tasks y2 with view := { (aaa y0.tasks y2).view with phase := 2 } } : TkV)).set y2.toNat ({ aaa (y0.tasks.set y2.toNat ({ aaa y0.tasks y2 with view := { (aaa y0.tasks y2).view with phase := 2 } } : TkV)) y2 with view := { (aaa (y0.tasks.set y2.toNat ({ aaa y0.tasks y2 with view := { (aaa y0.tasks y2).view with phase := 2 } } : TkV)) y2).view with worker := y1 } } : TkV)).set y2.toNat ({ aaa ((y0.tasks.set y2.toNat ({ aaa y0.tasks y2 with view := { (aaa y0.tasks y2).view with phase := 2 } } : TkV)).set y2.toNat ({ aaa (y0.tasks.set y2.toNat ({ aaa y0.tasks y2 with view := { (aaa y0.tasks y2).view with phase := 2 } } : TkV)) y2 with view := { (aaa (y0.tasks.set y2.toNat ({ aaa y0.tasks y2 with view := { (aaa y0.tasks y2).view with phase := 2 } } : TkV)) y2).view with worker := y1 } } : TkV)) y2 with view := { (aaa ((y0.tasks.set y2.toNat ({ aaa y0.tasks y2 with view := { (aaa y0.tasks y2).view with phase := 2 } } : TkV)).set y2.toNat ({ aaa (y0.tasks.set y2.toNat ({ aaa y0.tasks y2 with view := { (aaa y0.tasks y2).view with phase := 2 } } : TkV)) y2 with view := { (aaa (y0.tasks.set y2.toNat ({ aaa y0.tasks y2 with view := { (aaa y0.tasks y2).view with phase := 2 } } : TkV)) y2).view with worker := y1 } } : TkV)) y2).view with other := (-1) } } : TkV), works := (y0.works.set y1.toNat (aab y0.works y1)).set y1.toNat ({ aab (y0.works.set y1.toNat (aab y0.works y1)) y1 with stack := (([]) ++ ((aab y0.works y1).stack)) ++ ([y2]) } : WlV) } : SaV), ()))
   else none
   else none
   else none
   ) (
   if (((([] : List Int).length + ((aab y0.works y1).stack).length : Nat)) : Int) < 1000000000000 then
   if ((((([]) ++ ((aab y0.works y1).stack)).length + ([y2] : List Int).length : Nat)) : Int) < 1000000000000 then
   if 0 ≤ y1 ∧ y1 < (((y0.works.set y1.toNat (aab y0.works y1)).length : Nat) : Int) then
   some ((()), (({ y0 with tasks := ((y0.tasks.set y2.toNat ({ aaa y0.tasks y2 with view := { (aaa y0.tasks y2).view with phase := 2 } } : TkV)).set y2.toNat ({ aaa (y0.tasks.set y2.toNat ({ aaa y0.tasks y2 with view := { (aaa y0.tasks y2).view with phase := 2 } } : TkV)) y2 with view := { (aaa (y0.tasks.set y2.toNat ({ aaa y0.tasks y2 with view := { (aaa y0.tasks y2).view with phase := 2 } } : TkV)) y2).view with worker := y1 } } : TkV)).set y2.toNat ({ aaa ((y0.tasks.set y2.toNat ({ aaa y0.tasks y2 with view := { (aaa y0.tasks y2).view with phase := 2 } } : TkV)).set y2.toNat ({ aaa (y0.tasks.set y2.toNat ({ aaa y0.tasks y2 with view := { (aaa y0.tasks y2).view with phase := 2 } } : TkV)) y2 with view := { (aaa (y0.tasks.set y2.toNat ({ aaa y0.tasks y2 with view := { (aaa y0.tasks y2).view with phase := 2 } } : TkV)) y2).view with worker := y1 } } : TkV)) y2 with view := { (aaa ((y0.tasks.set y2.toNat ({ aaa y0.tasks y2 with view := { (aaa y0.tasks y2).view with phase := 2 } } : TkV)).set y2.toNat ({ aaa (y0.tasks.set y2.toNat ({ aaa y0.tasks y2 with view := { (aaa y0.tasks y2).view with phase := 2 } } : TkV)) y2 with view := { (aaa (y0.tasks.set y2.toNat ({ aaa y0.tasks y2 with view := { (aaa y0.tasks y2).view with phase := 2 } } : TkV)) y2).view with worker := y1 } } : TkV)) y2).view with other := (-1) } } : TkV), works := (y0.works.set y1.toNat (aab y0.works y1)).set y1.toNat ({ aab (y0.works.set y1.toNat (aab y0.works y1)) y1 with stack := (([]) ++ ((aab y0.works y1).stack)) ++ ([y2]) } : WlV) } : SaV), ()))
   else none
   else none
   else none
   )
   ) (
   if (((([] : List Int).length + ((aab y0.works y1).stack).length : Nat)) : Int) < 1000000000000 then
   if ((((([]) ++ ((aab y0.works y1).stack)).length + ([y2] : List Int).length : Nat)) : Int) < 1000000000000 then
   if 0 ≤ y1 ∧ y1 < (((y0.works.set y1.toNat (aab y0.works y1)).length : Nat) : Int) then
   some ((()), (({ y0 with tasks := ((y0.tasks.set y2.toNat ({ aaa y0.tasks y2 with view := { (aaa y0.tasks y2).view with phase := 2 } } : TkV)).set y2.toNat ({ aaa (y0.tasks.set y2.toNat ({ aaa y0.tasks y2 with view := { (aaa y0.tasks y2).view with phase := 2 } } : TkV)) y2 with view := { (aaa (y0.tasks.set y2.toNat ({ aaa y0.tasks y2 with view := { (aaa y0.tasks y2).view with phase := 2 } } : TkV)) y2).view with worker := y1 } } : TkV)).set y2.toNat ({ aaa ((y0.tasks.set y2.toNat ({ aaa y0.tasks y2 with view := { (aaa y0.tasks y2).view with phase := 2 } } : TkV)).set y2.toNat ({ aaa (y0.tasks.set y2.toNat ({ aaa y0.tasks y2 with view := { (aaa y0.tasks y2).view with phase := 2 } } : TkV)) y2 with view := { (aaa (y0.tasks.set y2.toNat ({ aaa y0.tasks y2 with view := { (aaa y0.tasks y2).view with phase := 2 } } : TkV)) y2).view with worker := y1 } } : TkV)) y2 with view := { (aaa ((y0.tasks.set y2.toNat ({ aaa y0.tasks y2 with view := { (aaa y0.tasks y2).view with phase := 2 } } : TkV)).set y2.toNat ({ aaa (y0.tasks.set y2.toNat ({ aaa y0.tasks y2 with view := { (aaa y0.tasks y2).view with phase := 2 } } : TkV)) y2 with view := { (aaa (y0.tasks.set y2.toNat ({ aaa y0.tasks y2 with view := { (aaa y0.tasks y2).view with phase := 2 } } : TkV)) y2).view with worker := y1 } } : TkV)) y2).view with other := (-1) } } : TkV), works := (y0.works.set y1.toNat (aab y0.works y1)).set y1.toNat ({ aab (y0.works.set y1.toNat (aab y0.works y1)) y1 with stack := (([]) ++ ((aab y0.works y1).stack)) ++ ([y2]) } : WlV) } : SaV), ()))
   else none
   else none
   else none
   )
   else none
   else none
  else none
 else none
noncomputable abbrev acR : Con SR1 := ⟨103, [.ref 66, .sh sI_, .sh sI_], [], fun x => ab6 x.1 x.2.1 x.2.2.1⟩
theorem aeR : CO Tryz.prog acR := aas aar Tryz.func103 [] trivial [] trivial (fun _ => []) [] fun x => by kernel_rfl
noncomputable def aan (y0 : SaV) (y1 : Int) (y2 : Int) : Option ((Unit) × (SaV × Unit)) :=
 if 0 ≤ y2 ∧ y2 < ((y0.tasks.length : Nat) : Int) then
  if 0 ≤ y2 ∧ y2 < (((y0.tasks.set y2.toNat ({ aaa y0.tasks y2 with view := { (aaa y0.tasks y2).view with phase := 2 } } : TkV)).length : Nat) : Int) then
   if 0 ≤ y2 ∧ y2 < ((((y0.tasks.set y2.toNat ({ aaa y0.tasks y2 with view := { (aaa y0.tasks y2).view with phase := 2 } } : TkV)).set y2.toNat ({ aaa (y0.tasks.set y2.toNat ({ aaa y0.tasks y2 with view := { (aaa y0.tasks y2).view with phase := 2 } } : TkV)) y2 with view := { (aaa (y0.tasks.set y2.toNat ({ aaa y0.tasks y2 with view := { (aaa y0.tasks y2).view with phase := 2 } } : TkV)) y2).view with worker := y1 } } : TkV)).length : Nat) : Int) then
   if 0 ≤ y1 ∧ y1 < ((y0.works.length : Nat) : Int) then
   if (((([] : List Int).length + ((aab y0.works y1).stack).length : Nat)) : Int) < 1000000000000 then
   if ((((([]) ++ ((aab y0.works y1).stack)).length + ([y2] : List Int).length : Nat)) : Int) < 1000000000000 then
   if 0 ≤ y1 ∧ y1 < (((y0.works.set y1.toNat (aab y0.works y1)).length : Nat) : Int) then
   some ((()), (({ y0 with tasks := ((y0.tasks.set y2.toNat ({ aaa y0.tasks y2 with view := { (aaa y0.tasks y2).view with phase := 2 } } : TkV)).set y2.toNat ({ aaa (y0.tasks.set y2.toNat ({ aaa y0.tasks y2 with view := { (aaa y0.tasks y2).view with phase := 2 } } : TkV)) y2 with view := { (aaa (y0.tasks.set y2.toNat ({ aaa y0.tasks y2 with view := { (aaa y0.tasks y2).view with phase := 2 } } : TkV)) y2).view with worker := y1 } } : TkV)).set y2.toNat ({ aaa ((y0.tasks.set y2.toNat ({ aaa y0.tasks y2 with view := { (aaa y0.tasks y2).view with phase := 2 } } : TkV)).set y2.toNat ({ aaa (y0.tasks.set y2.toNat ({ aaa y0.tasks y2 with view := { (aaa y0.tasks y2).view with phase := 2 } } : TkV)) y2 with view := { (aaa (y0.tasks.set y2.toNat ({ aaa y0.tasks y2 with view := { (aaa y0.tasks y2).view with phase := 2 } } : TkV)) y2).view with worker := y1 } } : TkV)) y2 with view := { (aaa ((y0.tasks.set y2.toNat ({ aaa y0.tasks y2 with view := { (aaa y0.tasks y2).view with phase := 2 } } : TkV)).set y2.toNat ({ aaa (y0.tasks.set y2.toNat ({ aaa y0.tasks y2 with view := { (aaa y0.tasks y2).view with phase := 2 } } : TkV)) y2 with view := { (aaa (y0.tasks.set y2.toNat ({ aaa y0.tasks y2 with view := { (aaa y0.tasks y2).view with phase := 2 } } : TkV)) y2).view with worker := y1 } } : TkV)) y2).view with other := (-1) } } : TkV), works := (y0.works.set y1.toNat (aab y0.works y1)).set y1.toNat ({ aab (y0.works.set y1.toNat (aab y0.works y1)) y1 with stack := (([]) ++ ((aab y0.works y1).stack)) ++ ([y2]) } : WlV) } : SaV), ()))
   else none
   else none
   else none
   else none
   else none
  else none
 else none
noncomputable abbrev adq : Con SR1 := ⟨103, [.ref 66, .sh sI_, .sh sI_], [], fun x => aan x.1 x.2.1 x.2.2.1⟩
theorem afF (y0 : SaV) (y1 : Int) (y2 : Int) : ab6 y0 y1 y2 = aan y0 y1 y2 := by
  unfold ab6 aan
  simp only [if_true, ahg, aei]
theorem afE : CO Tryz.prog adq := aqd aeR fun x out hx => (show acR.spec x = some out from (afF x.1 x.2.1 x.2.2.1).trans hx)
noncomputable def adL (y0 : SaV) (y1 : Ev) : Option ((Bool × Unit) × (SaV × Unit)) :=
 ((
  if y1.worker ≠ y0.c.workers then
   some (true, y0, ())
  else
  if y1.other ≠ y0.offers then
   some (true, y0, ())
  else
  some (decide (((y0.c.subs.length : Nat) : Int) ≤ y1.other), y0, ())
 ) : Option (Bool × SaV × Unit)).bind fun z1 =>
 if z1.1 = true then
  some ((false, ()), (z1.2.1, ()))
 else
 if y1.kind = 2 then
  if y1.level = 1 then
   if ((z1.2.1.queue.keys.length : Nat) : Int) = z1.2.1.c.heap then
   some ((true, ()), (({ z1.2.1 with offers := wi (z1.2.1.offers + 1) } : SaV), ()))
   else
   if y1.level = 2 then
   if ((z1.2.1.queue.keys.length : Nat) : Int) < z1.2.1.c.heap then
   (aaQ ({ z1.2.1 with offers := wi (z1.2.1.offers + 1) } : SaV)).bind fun r2 =>
   if z1.2.1.c.workers = r2.2.1.c.workers then
   if z1.2.1.c.tasks = r2.2.1.c.tasks then
   some ((decide ((wi (z1.2.1.c.tasks - z1.2.1.c.workers)) ≤ r2.1.1), ()), (r2.2.1, ()))
   else none
   else none
   else
   some ((false, ()), (({ z1.2.1 with offers := wi (z1.2.1.offers + 1) } : SaV), ()))
   else
   some ((false, ()), (({ z1.2.1 with offers := wi (z1.2.1.offers + 1) } : SaV), ()))
  else
  if y1.level = 2 then
   if ((z1.2.1.queue.keys.length : Nat) : Int) < z1.2.1.c.heap then
   (aaQ ({ z1.2.1 with offers := wi (z1.2.1.offers + 1) } : SaV)).bind fun r3 =>
   if z1.2.1.c.workers = r3.2.1.c.workers then
   if z1.2.1.c.tasks = r3.2.1.c.tasks then
   some ((decide ((wi (z1.2.1.c.tasks - z1.2.1.c.workers)) ≤ r3.1.1), ()), (r3.2.1, ()))
   else none
   else none
   else
   some ((false, ()), (({ z1.2.1 with offers := wi (z1.2.1.offers + 1) } : SaV), ()))
  else
  some ((false, ()), (({ z1.2.1 with offers := wi (z1.2.1.offers + 1) } : SaV), ()))
 else
 if 0 ≤ y1.other ∧ y1.other < ((z1.2.1.c.subs.length : Nat) : Int) then
  if ((akO z1.2.1.c.subs y1.other).prog) = ((akO z1.2.1.c.subs y1.other).prog) then
   if ((akO z1.2.1.c.subs y1.other).level) = ((akO z1.2.1.c.subs y1.other).level) then
   if ((akO z1.2.1.c.subs y1.other).deadline) = ((akO z1.2.1.c.subs y1.other).deadline) then
   if y1.other = y1.other then
   if y1.level ≠ ((akO z1.2.1.c.subs y1.other).level) then
   some ((false, ()), (({ z1.2.1 with offers := wi (z1.2.1.offers + 1) } : SaV), ()))
   else
   if 0 ≤ y1.task ∧ y1.task < ((z1.2.1.tasks.length : Nat) : Int) then
   if ((aaa z1.2.1.tasks y1.task).view.phase) ≠ 0 then
   some ((false, ()), (({ z1.2.1 with tasks := z1.2.1.tasks.set y1.task.toNat (aaa z1.2.1.tasks y1.task), offers := wi (z1.2.1.offers + 1) } : SaV), ()))
   else
   (aa6 z1.2.1.queue z1.2.1.c y1).bind fun r4 =>
   if (!r4.1.1) = true then
   some ((false, ()), (({ z1.2.1 with tasks := z1.2.1.tasks.set y1.task.toNat (aaa z1.2.1.tasks y1.task), queue := r4.2.1, offers := wi (z1.2.1.offers + 1) } : SaV), ()))
   else
   (aaX ({ z1.2.1 with tasks := z1.2.1.tasks.set y1.task.toNat (aaa z1.2.1.tasks y1.task), queue := r4.2.1, offers := wi (z1.2.1.offers + 1) } : SaV) y1.task y1.level ((akO z1.2.1.c.subs y1.other).prog) (-1)).bind fun r5 =>
   some ((true, ()), (r5.2.1, ()))
   else none
   else none
   else none
   else none
  else none
 else none
noncomputable abbrev adj : Con SR1 := ⟨88, [.ref 66, .val 2], [.sh .b], fun x => adL x.1 x.2.1⟩
theorem afa : CO Tryz.prog adj := aas aar Tryz.func88 [abV, abZ, abW] ⟨acS, acV, acU, trivial⟩ [] trivial (fun _ => []) [(2, .cut [.rg 33 .b, .ob 0 66] [6])] fun x => by kernel_rfl
end
end Go.Proofs.YtlcelajkhklkbaaGreat
