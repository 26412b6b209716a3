/- Walks: Check, Floors, Levels of the reference (layer 30). -/
import Derived.Test.YtpbkelpokpglaaaGreatInh8
set_option linter.all false
namespace Go.Proofs.YtpbkelpokpglaaaGreat
open Go.RowKit Go.Maps
/-- Where the reference's Check stands in round k. -/
def RChk (w : World) (n : Nat) (l : List Ev) (g k : Nat) (wr : World) : Prop :=
  (∃ bl cl bf cf bw cw, RInh w.heap.size wr g bl cl bf cf bw cw (playI n (l.take k)) n) ∧ Below w.heap.size w wr ∧ Hid (checkI (inh0 n) 0 l = checkI (playI n (l.take k)) k (l.drop k))
def RPly (w : World) (n : Nat) (l : List Ev) (g k : Nat) (wr : World) : Prop :=
  (∃ bl cl bf cf bw cw, RInh w.heap.size wr g bl cl bf cf bw cw (playI n (l.take k)) n) ∧ Below w.heap.size w wr
set_option maxRecDepth 100000 in
set_option maxHeartbeats 4000000 in
theorem refInhCheck_any (c : Cfg) (p : CfgAt) (A : Option Addr) (cap : Nat) (l : List Ev) (w : World) (hc : CfgIn w w.heap.size c p) (hl : Sl Ev.enc 5 w w.heap.size A l) :
    Calls Tryz.prog 44 #[cfgV c p, .slice A l.length cap] w fun e w' => e = .returned (.tuple #[.int .i64 (chkOut c l).1, .int .i64 (chkOut c l).2]) ∧ Below w.heap.size w w' := by
  have hB0 : Below w.heap.size w (w.alloc (cfgBox c p)) := (Below.refl _ _).alloc (Nat.le_refl _) _
  have hlen := hl.len
  by_cases he : cfgErr c = 0
  · obtain ⟨ht1, ht2⟩ := tasks_of he
    have Hout : Hid (chkOut c l = checkAll c.tasks.toNat l) := by rw [Hid]; unfold chkOut; rw [if_pos he]
    have t0 : (cfgErr c != 0) = false := by simp [he]
    clear he
    unfold cfgV
    go_enter Tryz.func44, Tryz.ntmps44
    go_wp2_with fail
    refine (refCheck_any c p _ (hc.up hB0)).mono ?_; rintro e w1 ⟨rfl, hb1⟩
    have hB1 := below_next hB0 hb1
    obtain ⟨hcs1, hfz1⟩ := bcell hb1
    clear hB0
    go_wp2_with fail
    clear hcs1 hfz1
    refine (first_any c p _ ht1 ht2).mono ?_; rintro e w2 ⟨g, rfl, v1, v2, v3, hfs⟩
    have hB2 := below_next hB1 hfs.bel
    obtain ⟨bl, cl, bf, cf, bw, cw, hp⟩ := first_inh hfs (by omega) (by omega)
    have hSt : RChk w c.tasks.toNat l g 0 w2 := ⟨⟨bl, cl, bf, cf, bw, cw, hp.down hB1.size⟩, hB2, rfl⟩
    clear hp hB2 hB1 hb1 hfs
    go_wp2_with fail
    go_loopw [8] (fun i wr => ∃ k : Nat, k ≤ l.length ∧ i = .int .i64 k ∧ RChk w c.tasks.toNat l g k wr) (fun i _ => l.length - (intOf i).toNat)
    case atStart => exact ⟨0, by omega, rfl, hSt⟩
    case round =>
      clear hSt
      obtain ⟨k, hk, rfl, ⟨bl, cl, bf, cf, bw, cw, hp⟩, hb, Hck⟩ := hrel
      by_cases hlt : k < l.length
      · obtain ⟨b, o, rfl, hbb, hcc⟩ := ev_cells (hl.up hb) hlt
        obtain ⟨c0, c1, c2, c3, c4⟩ := hcc k hlt
        have Hst := Lib.hid (playI_take (n := c.tasks.toNat) hlt)
        have Hdr : Hid (checkI (inh0 c.tasks.toNat) 0 l = if raisesI (playI c.tasks.toNat (l.take k)) l[k] && holdsI (applyI (playI c.tasks.toNat (l.take k)) l[k]) then checkI (applyI (playI c.tasks.toNat (l.take k)) l[k]) (k + 1) (l.drop (k + 1)) else some k) := by rw [Hid, Hck.out]; exact checkI_drop hlt
        clear Hck
        obtain ⟨s0, hs0⟩ : ∃ x, x = playI c.tasks.toNat (l.take k) := ⟨_, rfl⟩
        simp only [← hs0] at hp Hdr Hst
        clear hs0
        go_wp2_with fail
        refine (rapply_any hp (e := l[k])).mono ?_; rintro e w3 ⟨rfl, hp2, hb2⟩
        have hb3 := hb.trans hb2
        clear hb2 hb
        cases hr : raisesI s0 l[k] with
        | false =>
          have Hres : Hid (chkOut c l = ((k : Int), 6)) := by rw [Hid, Hout.out]; unfold checkAll; rw [Hdr.out, hr]; rfl
          clear hr
          go_wp2_with fail
          go_ret2
          exact ⟨by rw [Hres.out]; rfl, hb3⟩
        | true =>
          have Hr := Lib.hid hr
          clear hr
          go_wp2_with fail
          refine (rfloor_any hp2).mono ?_; rintro e w4 ⟨⟨bo, rfl, hx, ho⟩, hb4⟩
          have hb5 := below_next hb3 hb4
          have hp3 := hp2.below hb4 (Nat.le_refl _)
          have hn1 := hp3.n1
          have hn2 := hp3.n2
          have hxb : w.heap.size ≤ bo := Nat.le_trans hb3.size hx
          obtain ⟨s1, hs1⟩ : ∃ x, x = applyI s0 l[k] := ⟨_, rfl⟩
          simp only [← hs1] at hp3 Hdr Hst ho
          clear hs1 hb3 hb4 hp2 hx hp
          obtain ⟨n, hn⟩ : ∃ x, x = c.tasks.toNat := ⟨_, rfl⟩
          simp only [← hn] at hp3 hn1 hn2 ⊢
          have hfl : (floorsI s1).length = n := by unfold floorsI; rw [floorsTo_length, hp3.wf.ws]
          have hll := hp3.wf.lv
          have Hh : Hid (holdsI s1 = holdsTo s1 (floorsI s1) n) := by rw [Hid]; unfold holdsI; rw [hll]
          have Hn := Lib.hid hn
          clear hn
          go_wp2_with fail
          obtain ⟨wo, rfl⟩ : ∃ wo : World, wo = wr := ⟨_, rfl⟩
          clear c0 c1 c2 c3 c4 hcc
          go_loopw [10] (fun i wi => ∃ m : Nat, m ≤ n ∧ i = .int .i64 m ∧ Below w.heap.size w wi ∧ RInh w.heap.size wi g bl cl bf cf bw cw s1 n ∧ Arr wi bo 3 ((floorsOut s1).map (Value.int .i64)) ∧ Hid (holdsTo s1 (floorsI s1) m = true)) (fun i _ => n - (intOf i).toNat)
          case atStart => exact ⟨0, by omega, rfl, hb5, hp3, ho, rfl⟩
          case round =>
            clear hb5 hp3 ho
            obtain ⟨m, hm, rfl, hb, hp, ho, Hm⟩ := hrel
            by_cases hlt2 : m < n
            · have hcS := hp.st.cell
              have c0 : wr.cell? ⟨bo, m, none⟩ = some (.int .i64 (((floorsI s1).getD m none).getD (-1))) := ho.cell (by simp [floorsOut, List.getD, show m < (floorsI s1).length from by omega])
              have c1 := rlvAt hp hlt2
              have c2 := rfinAt hp hlt2
              have Hbad := Lib.hid (fun hx => holdsTo_bad (s := s1) (F := floorsI s1) hlt2 hx)
              have Hgood : Hid ((s1.fin.getD m false || !decide (s1.lv.getD m 0 < ((floorsI s1).getD m none).getD (-1))) = true → holdsTo s1 (floorsI s1) (m + 1) = true) := by
                rw [Hid]; intro hx; unfold holdsTo; rw [hx, Hm.out]; rfl
              obtain ⟨fv, hfv⟩ : ∃ x, x = ((floorsI s1).getD m none).getD (-1) := ⟨_, rfl⟩
              obtain ⟨lv, hlv⟩ : ∃ x, x = s1.lv.getD m 0 := ⟨_, rfl⟩
              obtain ⟨dn, hdn⟩ : ∃ x, x = s1.fin.getD m false := ⟨_, rfl⟩
              rw [← hfv] at c0 Hbad Hgood
              rw [← hlv] at c1 Hbad Hgood
              rw [← hdn] at c2 Hbad Hgood
              clear hfv hlv hdn
              cases dn with
              | true =>
                have Hg := Lib.hid (Hgood.out rfl)
                clear hfl hll
                go_wp2
                go_quiet (fail)
                go_wp2
                go_roundw
                case rel => exact ⟨m + 1, by omega, by go_num, below_drewN hb _, hp.drewN _, ho.drewN _, Hg.out⟩
                case measure => simp [intOf] <;> omega
              | false =>
                by_cases hl2 : lv < fv
                · have Hh0 : Hid (holdsI s1 = false) := by rw [Hid, Hh.out]; exact Hbad.out (by simp [hl2])
                  have Hres : Hid (chkOut c l = ((k : Int), 6)) := by rw [Hid, Hout.out]; unfold checkAll; rw [Hdr.out, Hh0.out, Hr.out]; rfl
                  clear hfl hll
                  go_wp2
                  go_quiet (fail)
                  go_wp2
                  go_ret2
                  exact ⟨by rw [Hres.out]; rfl, below_drewN hb _⟩
                · have Hg := Lib.hid (Hgood.out (by simp [hl2]))
                  clear hfl hll
                  go_wp2
                  go_quiet (fail)
                  go_wp2
                  go_roundw
                  case rel => exact ⟨m + 1, by omega, by go_num, below_drewN hb _, hp.drewN _, ho.drewN _, Hg.out⟩
                  case measure => simp [intOf] <;> omega
            · obtain rfl : n = m := by omega
              have Hnext : Hid (checkI (inh0 c.tasks.toNat) 0 l = checkI s1 (k + 1) (l.drop (k + 1))) := by rw [Hid, Hdr.out, Hh.out, Hm.out, Hr.out]; rfl
              clear hfl hll
              go_wp2
              go_roundw
              case rel => exact ⟨k + 1, by omega, by go_num, ⟨bl, cl, bf, cf, bw, cw, by rw [Hst.out, ← Hn.out]; exact hp⟩, hb, by rw [Hid, Hst.out]; exact Hnext.out⟩
              case measure => simp [intOf] <;> omega
      · obtain rfl : l.length = k := by omega
        have Hres : Hid (chkOut c l = ((l.length : Int), 0)) := by rw [Hid, Hout.out]; unfold checkAll; rw [Hck.out, List.drop_length]; rfl
        go_wp2
        go_ret2
        exact ⟨by rw [Hres.out]; rfl, hb⟩
  · have Hout : Hid (chkOut c l = (0, cfgErr c)) := by rw [Hid]; unfold chkOut; rw [if_neg he]
    have t0 : (cfgErr c != 0) = true := by simpa using he
    clear he
    unfold cfgV
    go_enter Tryz.func44, Tryz.ntmps44
    go_wp2_with fail
    refine (refCheck_any c p _ (hc.up hB0)).mono ?_; rintro e w1 ⟨rfl, hb1⟩
    have hB1 := below_next hB0 hb1
    go_wp2_with fail
    go_ret2
    exact ⟨by rw [Hout.out]; rfl, hB1⟩
set_option maxRecDepth 100000 in
set_option maxHeartbeats 4000000 in
theorem refInhFloors_any (c : Cfg) (p : CfgAt) (A : Option Addr) (cap : Nat) (l : List Ev) (w : World) (hc : CfgIn w w.heap.size c p) (hl : Sl Ev.enc 5 w w.heap.size A l) :
    Calls Tryz.prog 45 #[cfgV c p, .slice A l.length cap] w (IntsP w (flOut c l)) := by
  have hB0 : Below w.heap.size w (w.alloc (cfgBox c p)) := (Below.refl _ _).alloc (Nat.le_refl _) _
  have hlen := hl.len
  by_cases he : cfgErr c = 0
  · obtain ⟨ht1, ht2⟩ := tasks_of he
    have Hout : Hid (flOut c l = floorsOut (playI c.tasks.toNat l)) := by rw [Hid]; unfold flOut; rw [if_pos he]
    have t0 : (cfgErr c != 0) = false := by simp [he]
    clear he
    unfold cfgV
    go_enter Tryz.func45, Tryz.ntmps45
    go_wp2_with fail
    refine (refCheck_any c p _ (hc.up hB0)).mono ?_; rintro e w1 ⟨rfl, hb1⟩
    have hB1 := below_next hB0 hb1
    obtain ⟨hcs1, hfz1⟩ := bcell hb1
    clear hB0
    go_wp2_with fail
    clear hcs1 hfz1
    refine (first_any c p _ ht1 ht2).mono ?_; rintro e w2 ⟨g, rfl, v1, v2, v3, hfs⟩
    have hB2 := below_next hB1 hfs.bel
    obtain ⟨bl, cl, bf, cf, bw, cw, hp⟩ := first_inh hfs (by omega) (by omega)
    have hSt : RPly w c.tasks.toNat l g 0 w2 := ⟨⟨bl, cl, bf, cf, bw, cw, hp.down hB1.size⟩, hB2⟩
    clear hp hB2 hB1 hb1 hfs
    go_wp2_with fail
    go_loopw [6] (fun i wr => ∃ k : Nat, k ≤ l.length ∧ i = .int .i64 k ∧ RPly w c.tasks.toNat l g k wr) (fun i _ => l.length - (intOf i).toNat)
    case atStart => exact ⟨0, by omega, rfl, hSt⟩
    case round =>
      clear hSt
      obtain ⟨k, hk, rfl, ⟨bl, cl, bf, cf, bw, cw, hp⟩, hb⟩ := hrel
      by_cases hlt : k < l.length
      · obtain ⟨b, o, rfl, hbb, hcc⟩ := ev_cells (hl.up hb) hlt
        obtain ⟨c0, c1, c2, c3, c4⟩ := hcc k hlt
        have Hst := Lib.hid (playI_take (n := c.tasks.toNat) hlt)
        go_wp2_with fail
        refine (rapply_any hp (e := l[k])).mono ?_; rintro e w3 ⟨rfl, hp2, hb2⟩
        go_wp2_with fail
        go_roundw
        case rel => exact ⟨k + 1, by omega, by go_num, ⟨bl, cl, bf, cf, bw, cw, by rw [Hst.out]; exact hp2⟩, hb.trans hb2⟩
        case measure => simp [intOf] <;> omega
      · obtain rfl : l.length = k := by omega
        have Hst : Hid (playI c.tasks.toNat (l.take l.length) = playI c.tasks.toNat l) := by rw [Hid, List.take_length]
        rw [Hst.out] at hp
        have hfl : (floorsOut (playI c.tasks.toNat l)).length = c.tasks.toNat := by unfold floorsOut floorsI; rw [List.length_map, floorsTo_length, hp.wf.ws]
        have Hfl := Lib.hid hfl
        clear hfl
        go_wp2_with fail
        refine (rfloor_any hp).mono ?_; rintro e w3 ⟨⟨bo, rfl, hx, ho⟩, hb3⟩
        have hB3 := below_next hb hb3
        go_wp2_with fail
        go_ret
        exact ⟨⟨some ⟨bo, 0, none⟩, c.tasks.toNat, by rw [Hout.out, Hfl.out]; rfl, by rw [Hout.out]; exact arr_sl ho (by rw [Hfl.out]; omega)⟩, hB3⟩
  · have Hout : Hid (flOut c l = []) := by rw [Hid]; unfold flOut; rw [if_neg he]
    have t0 : (cfgErr c != 0) = true := by simpa using he
    clear he
    unfold cfgV
    go_enter Tryz.func45, Tryz.ntmps45
    go_wp2_with fail
    refine (refCheck_any c p _ (hc.up hB0)).mono ?_; rintro e w1 ⟨rfl, hb1⟩
    have hB1 := below_next hB0 hb1
    go_wp2_with fail
    go_ret
    exact ⟨⟨none, 0, by rw [Hout.out]; rfl, by rw [Hout.out]; exact Sl.nil⟩, hB1⟩
set_option maxRecDepth 100000 in
set_option maxHeartbeats 4000000 in
theorem refInhLevels_any (c : Cfg) (p : CfgAt) (A : Option Addr) (cap : Nat) (l : List Ev) (w : World) (hc : CfgIn w w.heap.size c p) (hl : Sl Ev.enc 5 w w.heap.size A l) :
    Calls Tryz.prog 46 #[cfgV c p, .slice A l.length cap] w (IntsP w (lvOut c l)) := by
  have hB0 : Below w.heap.size w (w.alloc (cfgBox c p)) := (Below.refl _ _).alloc (Nat.le_refl _) _
  have hlen := hl.len
  by_cases he : cfgErr c = 0
  · obtain ⟨ht1, ht2⟩ := tasks_of he
    have Hout : Hid (lvOut c l = (playI c.tasks.toNat l).lv) := by rw [Hid]; unfold lvOut; rw [if_pos he]
    have t0 : (cfgErr c != 0) = false := by simp [he]
    clear he
    unfold cfgV
    go_enter Tryz.func46, Tryz.ntmps46
    go_wp2_with fail
    refine (refCheck_any c p _ (hc.up hB0)).mono ?_; rintro e w1 ⟨rfl, hb1⟩
    have hB1 := below_next hB0 hb1
    obtain ⟨hcs1, hfz1⟩ := bcell hb1
    clear hB0
    go_wp2_with fail
    clear hcs1 hfz1
    refine (first_any c p _ ht1 ht2).mono ?_; rintro e w2 ⟨g, rfl, v1, v2, v3, hfs⟩
    have hB2 := below_next hB1 hfs.bel
    obtain ⟨bl, cl, bf, cf, bw, cw, hp⟩ := first_inh hfs (by omega) (by omega)
    have hSt : RPly w c.tasks.toNat l g 0 w2 := ⟨⟨bl, cl, bf, cf, bw, cw, hp.down hB1.size⟩, hB2⟩
    clear hp hB2 hB1 hb1 hfs
    go_wp2_with fail
    go_loopw [6] (fun i wr => ∃ k : Nat, k ≤ l.length ∧ i = .int .i64 k ∧ RPly w c.tasks.toNat l g k wr) (fun i _ => l.length - (intOf i).toNat)
    case atStart => exact ⟨0, by omega, rfl, hSt⟩
    case round =>
      clear hSt
      obtain ⟨k, hk, rfl, ⟨bl, cl, bf, cf, bw, cw, hp⟩, hb⟩ := hrel
      by_cases hlt : k < l.length
      · obtain ⟨b, o, rfl, hbb, hcc⟩ := ev_cells (hl.up hb) hlt
        obtain ⟨c0, c1, c2, c3, c4⟩ := hcc k hlt
        have Hst := Lib.hid (playI_take (n := c.tasks.toNat) hlt)
        go_wp2_with fail
        refine (rapply_any hp (e := l[k])).mono ?_; rintro e w3 ⟨rfl, hp2, hb2⟩
        go_wp2_with fail
        go_roundw
        case rel => exact ⟨k + 1, by omega, by go_num, ⟨bl, cl, bf, cf, bw, cw, by rw [Hst.out]; exact hp2⟩, hb.trans hb2⟩
        case measure => simp [intOf] <;> omega
      · obtain rfl : l.length = k := by omega
        have Hst : Hid (playI c.tasks.toNat (l.take l.length) = playI c.tasks.toNat l) := by rw [Hid, List.take_length]
        rw [Hst.out] at hp
        have Hll := Lib.hid hp.wf.lv
        have hcS := hp.st.cell
        go_wp2_with fail
        go_ret
        exact ⟨⟨some ⟨bl, 0, none⟩, cl, by rw [Hout.out, Hll.out]; rfl, by rw [Hout.out]; exact arr_sl hp.lv (by rw [Hll.out]; omega)⟩, hb⟩
  · have Hout : Hid (lvOut c l = []) := by rw [Hid]; unfold lvOut; rw [if_neg he]
    have t0 : (cfgErr c != 0) = true := by simpa using he
    clear he
    unfold cfgV
    go_enter Tryz.func46, Tryz.ntmps46
    go_wp2_with fail
    refine (refCheck_any c p _ (hc.up hB0)).mono ?_; rintro e w1 ⟨rfl, hb1⟩
    have hB1 := below_next hB0 hb1
    go_wp2_with fail
    go_ret
    exact ⟨⟨none, 0, by rw [Hout.out]; rfl, by rw [Hout.out]; exact Sl.nil⟩, hB1⟩
end Go.Proofs.YtpbkelpokpglaaaGreat
