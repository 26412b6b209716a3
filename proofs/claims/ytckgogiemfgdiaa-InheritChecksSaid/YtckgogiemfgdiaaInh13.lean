/- Walk: law 30's InheritChecks. -/
import Derived.Test.YtckgogiemfgdiaaInh12
namespace Go.Proofs.Ytckgogiemfgdiaa
open Go.RowKit Go.Maps

set_option maxRecDepth 100000 in
set_option maxHeartbeats 2000000 in
theorem inheritChecks_any (c : Cfg) (p : CfgAt) (A Ab Ar : Option Addr) (cap capb capr : Nat) (l : List Ev) (bs : List Nat) (xs : List Int) (w : World) (hc : CfgIn w w.heap.size c p) (hl : Sl Ev.enc 5 w w.heap.size A l) (hb : Sl encByte 1 w w.heap.size Ab bs) (hx : Sl encInt 1 w w.heap.size Ar xs) (hwl : EvsOk l) (hwb : BytesWf bs) (hwx : IntsWf xs) :
    Calls Try.prog 3 #[cfgV c p, .slice A l.length cap, .slice Ab bs.length capb, .slice Ar xs.length capr] w fun e w' => e = .returned (.bool true) ∧ Below w.heap.size w w' := by
  have hB0 : Below w.heap.size w (w.alloc (cfgBox c p)) := (Below.refl _ _).alloc (Nat.le_refl _) _
  have hK0 : Blk (w.alloc (cfgBox c p)) w.heap.size 25 (cfgC c.workers c.levels c.classes c.tasks c.deque c.heap c.batch c.age c.patience (.slice p.pa c.progs.length p.pc) (.slice p.sa c.subs.length p.sc)) := Blk.new _ _ _
  have hll := hl.len
  have hlb := hb.len
  have hlx := hx.len
  unfold cfgV
  go_enter Try.func3, Try.ntmps3
  go_wp2_with fail
  refine (small_any c p _ (hc.up hB0)).mono ?_; rintro e w1 ⟨rfl, hb1⟩
  have hB1 := below_next hB0 hb1
  have hK1 := hK0.below hb1 hK0.lt
  clear hb1 hB0 hK0
  by_cases t1 : smallB c = false
  · go_wp2
    go_ret
    exact ⟨rfl, hB1⟩
  have t1' : smallB c = true := by simpa using t1
  clear t1
  by_cases t2 : 100 < l.length
  · go_wp2
    go_ret
    exact ⟨rfl, hB1⟩
  go_wp2_with fail
  have hE : Below w1.heap.size w1 (w1.alloc (.cells #[.slice Ar xs.length capr] 28)) := (Below.refl _ _).alloc (Nat.le_refl _) _
  refine (short_any Ab _ bs.length capb 1 [(Ar, xs.length, capr)] _ (sl_blk (enc := encSl) (sz := 1) (xs := [(Ar, xs.length, capr)]) (fun _ => rfl) (Blk.new w1 28 #[.slice Ar xs.length capr]) rfl (by simp)) (by intro x h; simp at h; subst h; exact hlx) hlb).mono ?_; rintro e w2 ⟨rfl, rfl⟩
  have hB2 := below_next hB1 hE
  have hK2 := hK1.alloc (.cells #[.slice Ar xs.length capr] 28)
  clear hE hB1 hK1
  by_cases t3 : shortB bs.length [(Ar, xs.length, capr)] = false
  · go_wp2
    go_ret
    exact ⟨rfl, hB2⟩
  have t3' : shortB bs.length [(Ar, xs.length, capr)] = true := by simpa using t3
  clear t3
  by_cases t4 : 100 < xs.length
  · go_wp2
    go_ret
    exact ⟨rfl, hB2⟩
  go_wp2_with fail
  refine (awakeI_any _).mono ?_; rintro e w3 ⟨rfl, hb3⟩
  have hB3 := below_next hB2 hb3
  have hK3 := hK2.below hb3 hK2.lt
  have hcs := hK3.cell
  clear hb3 hB2 hK2
  go_wp2_with fail
  clear hcs
  refine (agreeI_any c p A cap l _ (hc.up hB3) (hl.up hB3) (by omega) hwl).mono ?_; rintro e w4 ⟨rfl, hb4⟩
  have hB4 := below_next hB3 hb4
  clear hb4 hB3 hK3
  go_wp2_with fail
  refine (config_any Ab capb bs _ (hb.up hB4) hwb).mono ?_; rintro e w5 ⟨⟨q5, rfl, hd5⟩, hb5⟩
  have hB5 := below_next hB4 hb5
  clear hb5 hB4
  go_wp2_with fail
  refine (agreeI_any (decode bs) q5 A cap l _ hd5 (hl.up hB5) (by omega) hwl).mono ?_; rintro e w6 ⟨rfl, hb6⟩
  have hB6 := below_next hB5 hb6
  clear hb6 hB5 hd5
  go_wp2_with fail
  refine (config_any Ab capb bs _ (hb.up hB6) hwb).mono ?_; rintro e w7 ⟨⟨q7, rfl, hd7⟩, hb7⟩
  have hB7 := below_next hB6 hb7
  clear hb7 hB6
  go_wp2_with fail
  refine (narrow_any Ar capr xs _ (hx.up hB7) hwx (by omega)).mono ?_; rintro e w8 ⟨⟨A8, p8, m8, rfl, hs8, hw8, hn8⟩, hb8⟩
  have hB8 := below_next hB7 hb8
  have hd8 := hd7.up hb8
  clear hb8 hB7 hd7
  go_wp2_with fail
  refine (agreeI_any (decode bs) q7 A8 p8 m8 _ hd8 hs8 (by omega) hw8).mono ?_; rintro e w9 ⟨rfl, hb9⟩
  have hB9 := below_next hB8 hb9
  clear hb9 hB8 hd8 hs8
  go_wp2_with fail
  refine (four_any _).mono ?_; rintro e w10 ⟨⟨q10, rfl, hd10⟩, hb10⟩
  obtain ⟨c4, hc4⟩ : ∃ c, c = cfg4 := ⟨_, rfl⟩
  rw [← hc4] at hd10 ⊢
  clear hc4
  have hB10 := below_next hB9 hb10
  clear hb10 hB9
  go_wp2_with fail
  refine (narrow_any Ar capr xs _ (hx.up hB10) hwx (by omega)).mono ?_; rintro e w11 ⟨⟨A11, p11, m11, rfl, hs11, hw11, hn11⟩, hb11⟩
  have hB11 := below_next hB10 hb11
  have hd11 := hd10.up hb11
  clear hb11 hB10 hd10
  go_wp2_with fail
  refine (agreeI_any c4 q10 A11 p11 m11 _ hd11 hs11 (by omega) hw11).mono ?_; rintro e w12 ⟨rfl, hb12⟩
  have hB12 := below_next hB11 hb12
  clear hb12 hB11 hd11 hs11
  go_wp2_with fail
  go_ret
  exact ⟨rfl, hB12⟩
end Go.Proofs.Ytckgogiemfgdiaa
