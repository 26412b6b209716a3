/- Walks: Check, Floors, Levels of the program (layer 30). -/
import Derived.Test.YtpbkelpokpglaaaGreatInh4
set_option linter.all false
namespace Go.Proofs.YtpbkelpokpglaaaGreat
open Go.RowKit Go.Maps
set_option maxRecDepth 100000 in
set_option maxHeartbeats 2000000 in
theorem holds_any {B : Nat} {w : World} {g bl cl bf bm : Nat} {s : Inh} {n nm : Nat} (h : PInh B w g bl cl bf bm s n nm) : Calls Tryz.prog 66 #[.pointer (some ⟨g, 0, none⟩)] w fun e w' => e = .returned (.bool (holdsI s)) ∧ Below w.heap.size w w' := by
  have hn1 := h.n1
  have hn2 := h.n2
  have hfl : (floorsI s).length = n := by unfold floorsI; rw [floorsTo_length, h.wf.ws]
  have hll := h.wf.lv
  have Hh : Hid (holdsI s = holdsTo s (floorsI s) n) := by rw [Hid]; unfold holdsI; rw [hll]
  go_enter Tryz.func66, Tryz.ntmps66
  go_wp2_with fail
  refine (floors_any h).mono ?_; rintro e w1 ⟨⟨bo, rfl, hx, ho⟩, hb⟩
  have hSt : Below w.heap.size w w1 ∧ Arr w1 bo 3 ((floorsOut s).map (Value.int .i64)) ∧ Hid (holdsTo s (floorsI s) 0 = true) := ⟨hb, ho, rfl⟩
  clear hb ho
  go_wp2_with fail
  go_loopw [8] (fun i wr => ∃ k : Nat, k ≤ n ∧ i = .int .i64 k ∧ Below w.heap.size w wr ∧ Arr wr bo 3 ((floorsOut s).map (Value.int .i64)) ∧ Hid (holdsTo s (floorsI s) k = true)) (fun i _ => n - (intOf i).toNat)
  case atStart => exact ⟨0, by omega, rfl, hSt.1, hSt.2.1, hSt.2.2⟩
  case round =>
    clear hSt
    obtain ⟨k, hk, rfl, hb, ho, Hk⟩ := hrel
    by_cases hlt : k < n
    · have hp := h.below hb (Nat.le_refl _)
      have hcS := hp.st.cell
      have hlg := hp.st.lt
      have c0 : wr.cell? ⟨bo, k, none⟩ = some (.int .i64 (((floorsI s).getD k none).getD (-1))) := ho.cell (by simp [floorsOut, List.getD, show k < (floorsI s).length from by omega])
      have c1 := lvAt hp hlt
      have c2 := finAt hp hlt
      have Hbad := Lib.hid (fun hx => holdsTo_bad (s := s) (F := floorsI s) hlt hx)
      have Hgood : Hid ((s.fin.getD k false || !decide (s.lv.getD k 0 < ((floorsI s).getD k none).getD (-1))) = true → holdsTo s (floorsI s) (k + 1) = true) := by
        rw [Hid]; intro hx; unfold holdsTo; rw [hx, Hk.out]; rfl
      obtain ⟨fv, hfv⟩ : ∃ x, x = ((floorsI s).getD k none).getD (-1) := ⟨_, rfl⟩
      obtain ⟨lv, hlv⟩ : ∃ x, x = s.lv.getD k 0 := ⟨_, rfl⟩
      obtain ⟨dn, hdn⟩ : ∃ x, x = s.fin.getD k false := ⟨_, rfl⟩
      rw [← hfv] at c0 Hbad Hgood
      rw [← hlv] at c1 Hbad Hgood
      rw [← hdn] at c2 Hbad Hgood
      clear hfv hlv hdn hfl hll
      cases dn with
      | true =>
        go_wp2
        go_roundw
        case rel => exact ⟨k + 1, by omega, by go_num, hb, ho, Hgood.out rfl⟩
        case measure => simp [intOf] <;> omega
      | false =>
        by_cases hl2 : lv < fv
        · have Hr : Hid (holdsI s = false) := by rw [Hid, Hh.out]; exact Hbad.out (by simp [hl2])
          go_wp2
          go_ret
          exact ⟨ret_bool Hr.out.symm, hb⟩
        · have Hr := Lib.hid (Hgood.out (by simp [hl2]))
          go_wp2
          go_roundw
          case rel => exact ⟨k + 1, by omega, by go_num, hb, ho, Hr.out⟩
          case measure => simp [intOf] <;> omega
    · obtain rfl : n = k := by omega
      have Hr : Hid (holdsI s = true) := by rw [Hid, Hh.out]; exact Hk.out
      go_wp2
      go_ret
      exact ⟨ret_bool Hr.out.symm, hb⟩
def chkOut (c : Cfg) (l : List Ev) : Int × Int := if cfgErr c = 0 then checkAll c.tasks.toNat l else (0, cfgErr c)
theorem tasks_of {c : Cfg} (h : cfgErr c = 0) : 1 ≤ c.tasks ∧ c.tasks ≤ 256 := by
  unfold cfgErr at h
  by_cases hn : numsOk c = true
  · have := numsOk_spec hn; omega
  · simp [hn] at h
/-- Where Check stands in round k. -/
def ChkSt (w : World) (n : Nat) (l : List Ev) (g bl cl bf bm k : Nat) (wr : World) : Prop :=
  (∃ nm, nm ≤ k ∧ PInh w.heap.size wr g bl cl bf bm (playI n (l.take k)) n nm) ∧ Below w.heap.size w wr ∧ Hid (checkI (inh0 n) 0 l = checkI (playI n (l.take k)) k (l.drop k))
set_option maxRecDepth 100000 in
set_option maxHeartbeats 2000000 in
theorem inhCheck_any (c : Cfg) (p : CfgAt) (A : Option Addr) (cap : Nat) (l : List Ev) (w : World) (hc : CfgIn w w.heap.size c p) (hl : Sl Ev.enc 5 w w.heap.size A l) (hn : l.length ≤ 1000000) (hwf : EvsOk l) :
    Calls Tryz.prog 40 #[cfgV c p, .slice A l.length cap] w fun e w' => e = .returned (.tuple #[.int .i64 (chkOut c l).1, .int .i64 (chkOut c l).2]) ∧ Below w.heap.size w w' := by
  have hB0 : Below w.heap.size w (w.alloc (cfgBox c p)) := (Below.refl _ _).alloc (Nat.le_refl _) _
  by_cases he : cfgErr c = 0
  · obtain ⟨ht1, ht2⟩ := tasks_of he
    have Hout : Hid (chkOut c l = checkAll c.tasks.toNat l) := by rw [Hid]; unfold chkOut; rw [if_pos he]
    have t0 : (cfgErr c != 0) = false := by simp [he]
    clear he
    unfold cfgV
    go_enter Tryz.func40, Tryz.ntmps40
    go_wp2_with fail
    refine (cfgCheck_any c p _ (hc.up hB0)).mono ?_; rintro e w1 ⟨rfl, hb1⟩
    have hB1 := below_next hB0 hb1
    obtain ⟨hcs1, hfz1⟩ := bcell hb1
    clear hB0
    go_wp2_with fail
    clear hcs1 hfz1
    refine (newState_any c p _ ht1 ht2).mono ?_; rintro e w2 ⟨⟨g, bl, cl, bf, bm, rfl, hp⟩, hb⟩
    have hB2 := below_next hB1 hb
    replace hp := hp.down (B' := w.heap.size) hB1.size
    have hSt : ChkSt w c.tasks.toNat l g bl cl bf bm 0 w2 := ⟨⟨0, by omega, hp⟩, hB2, rfl⟩
    clear hp hB2 hB1 hb1 hb
    go_wp2_with fail
    go_loopw [19] (fun i wr => ∃ k : Nat, k ≤ l.length ∧ i = .int .i64 k ∧ ChkSt w c.tasks.toNat l g bl cl bf bm k wr) (fun i _ => l.length - (intOf i).toNat)
    case atStart => exact ⟨0, by omega, rfl, hSt⟩
    case round =>
      clear hSt
      obtain ⟨k, hk, rfl, ⟨nm, hnm, hp⟩, hb, Hck⟩ := hrel
      by_cases hlt : k < l.length
      · obtain ⟨b, o, rfl, hbb, hcc⟩ := ev_cells (hl.up hb) hlt
        obtain ⟨c0, c1, c2, c3, c4⟩ := hcc k hlt
        have hok := hwf k hlt
        have hpa := hp.alloc (evBox l[k])
        have hba := hb.alloc hb.size (evBox l[k])
        have Hst := Lib.hid (playI_take (n := c.tasks.toNat) hlt)
        have Hdr : Hid (checkI (inh0 c.tasks.toNat) 0 l = if raisesI (playI c.tasks.toNat (l.take k)) l[k] && holdsI (applyI (playI c.tasks.toNat (l.take k)) l[k]) then checkI (applyI (playI c.tasks.toNat (l.take k)) l[k]) (k + 1) (l.drop (k + 1)) else some k) := by rw [Hid, Hck.out]; exact checkI_drop hlt
        clear Hck
        obtain ⟨s0, hs0⟩ : ∃ x, x = playI c.tasks.toNat (l.take k) := ⟨_, rfl⟩
        simp only [← hs0] at hpa Hdr Hst
        clear hs0 hp
        go_wp2_with fail
        refine (apply_any hpa hok (by omega)).mono ?_; rintro e w3 ⟨rfl, ⟨nm', hnm', hp2⟩, hb2⟩
        have hb3 := hba.trans hb2
        clear hb2 hpa hba
        cases hr : raisesI s0 l[k] with
        | false =>
          have Hres : Hid (chkOut c l = ((k : Int), 6)) := by rw [Hid, Hout.out]; unfold checkAll; rw [Hdr.out, hr]; rfl
          clear hr
          go_wp2_with fail
          go_ret2
          exact ⟨by rw [Hres.out]; rfl, hb3⟩
        | true =>
          have Hr := Lib.hid hr
          clear hr
          go_wp2_with fail
          refine (holds_any hp2).mono ?_; rintro e w4 ⟨rfl, hb4⟩
          have hb5 := below_next hb3 hb4
          have hp3 := hp2.below hb4 (Nat.le_refl _)
          clear hb3 hb4 hp2
          cases hh : holdsI (applyI s0 l[k]) with
          | false =>
            have Hres : Hid (chkOut c l = ((k : Int), 6)) := by rw [Hid, Hout.out]; unfold checkAll; rw [Hdr.out, hh, Hr.out]; rfl
            clear hh
            go_wp2_with fail
            go_ret2
            exact ⟨by rw [Hres.out]; rfl, hb5⟩
          | true =>
            have Hnext : Hid (checkI (inh0 c.tasks.toNat) 0 l = checkI (applyI s0 l[k]) (k + 1) (l.drop (k + 1))) := by rw [Hid, Hdr.out, hh, Hr.out]; rfl
            clear hh
            go_wp2_with fail
            go_roundw
            case rel => exact ⟨k + 1, by omega, by go_num, ⟨nm', by omega, by rw [Hst.out]; exact hp3⟩, hb5, by rw [Hid, Hst.out]; exact Hnext.out⟩
            case measure => simp [intOf] <;> omega
      · obtain rfl : l.length = k := by omega
        have Hres : Hid (chkOut c l = ((l.length : Int), 0)) := by rw [Hid, Hout.out]; unfold checkAll; rw [Hck.out, List.drop_length]; rfl
        go_wp2
        go_ret2
        exact ⟨by rw [Hres.out]; rfl, hb⟩
  · have Hout : Hid (chkOut c l = (0, cfgErr c)) := by rw [Hid]; unfold chkOut; rw [if_neg he]
    have t0 : (cfgErr c != 0) = true := by simpa using he
    clear he
    unfold cfgV
    go_enter Tryz.func40, Tryz.ntmps40
    go_wp2_with fail
    refine (cfgCheck_any c p _ (hc.up hB0)).mono ?_; rintro e w1 ⟨rfl, hb1⟩
    have hB1 := below_next hB0 hb1
    go_wp2_with fail
    go_ret2
    exact ⟨by rw [Hout.out]; rfl, hB1⟩
def flOut (c : Cfg) (l : List Ev) : List Int := if cfgErr c = 0 then floorsOut (playI c.tasks.toNat l) else []
def lvOut (c : Cfg) (l : List Ev) : List Int := if cfgErr c = 0 then (playI c.tasks.toNat l).lv else []
/-- A slice of numbers is handed back. -/
def IntsP (w : World) (xs : List Int) (e : Ending) (w' : World) : Prop := (∃ A cap, e = .returned (.slice A xs.length cap) ∧ Sl encInt 1 w' w'.heap.size A xs) ∧ Below w.heap.size w w'
set_option maxRecDepth 100000 in
set_option maxHeartbeats 2000000 in
theorem inhFloors_any (c : Cfg) (p : CfgAt) (A : Option Addr) (cap : Nat) (l : List Ev) (w : World) (hc : CfgIn w w.heap.size c p) (hl : Sl Ev.enc 5 w w.heap.size A l) (hn : l.length ≤ 1000000) (hwf : EvsOk l) :
    Calls Tryz.prog 42 #[cfgV c p, .slice A l.length cap] w (IntsP w (flOut c l)) := by
  have hB0 : Below w.heap.size w (w.alloc (cfgBox c p)) := (Below.refl _ _).alloc (Nat.le_refl _) _
  by_cases he : cfgErr c = 0
  · obtain ⟨ht1, ht2⟩ := tasks_of he
    have Hout : Hid (flOut c l = floorsOut (playI c.tasks.toNat l)) := by rw [Hid]; unfold flOut; rw [if_pos he]
    have t0 : (cfgErr c != 0) = false := by simp [he]
    clear he
    unfold cfgV
    go_enter Tryz.func42, Tryz.ntmps42
    go_wp2_with fail
    refine (cfgCheck_any c p _ (hc.up hB0)).mono ?_; rintro e w1 ⟨rfl, hb1⟩
    have hB1 := below_next hB0 hb1
    obtain ⟨hcs1, hfz1⟩ := bcell hb1
    clear hB0
    go_wp2_with fail
    clear hcs1 hfz1
    refine (play_any c p A cap l _ (hl.up hB1) hn hwf ht1 ht2).mono ?_; rintro e w2 ⟨nm, ⟨g, bl, cl, bf, bm, rfl, hp⟩, hb⟩
    have hB2 := below_next hB1 hb
    have hfl : (floorsOut (playI c.tasks.toNat l)).length = c.tasks.toNat := by unfold floorsOut floorsI; rw [List.length_map, floorsTo_length, hp.wf.ws]
    have Hfl := Lib.hid hfl
    clear hfl
    go_wp2_with fail
    refine (floors_any hp).mono ?_; rintro e w3 ⟨⟨bo, rfl, hx, ho⟩, hb3⟩
    have hB3 := below_next hB2 hb3
    go_wp2_with fail
    go_ret
    exact ⟨⟨some ⟨bo, 0, none⟩, c.tasks.toNat, by rw [Hout.out, Hfl.out]; rfl, by rw [Hout.out]; exact arr_sl ho (by rw [Hfl.out]; omega)⟩, hB3⟩
  · have Hout : Hid (flOut c l = []) := by rw [Hid]; unfold flOut; rw [if_neg he]
    have t0 : (cfgErr c != 0) = true := by simpa using he
    clear he
    unfold cfgV
    go_enter Tryz.func42, Tryz.ntmps42
    go_wp2_with fail
    refine (cfgCheck_any c p _ (hc.up hB0)).mono ?_; rintro e w1 ⟨rfl, hb1⟩
    have hB1 := below_next hB0 hb1
    go_wp2_with fail
    go_ret
    exact ⟨⟨none, 0, by rw [Hout.out]; rfl, by rw [Hout.out]; exact Sl.nil⟩, hB1⟩
set_option maxRecDepth 100000 in
set_option maxHeartbeats 2000000 in
theorem inhLevels_any (c : Cfg) (p : CfgAt) (A : Option Addr) (cap : Nat) (l : List Ev) (w : World) (hc : CfgIn w w.heap.size c p) (hl : Sl Ev.enc 5 w w.heap.size A l) (hn : l.length ≤ 1000000) (hwf : EvsOk l) :
    Calls Tryz.prog 43 #[cfgV c p, .slice A l.length cap] w (IntsP w (lvOut c l)) := by
  have hB0 : Below w.heap.size w (w.alloc (cfgBox c p)) := (Below.refl _ _).alloc (Nat.le_refl _) _
  by_cases he : cfgErr c = 0
  · obtain ⟨ht1, ht2⟩ := tasks_of he
    have Hout : Hid (lvOut c l = (playI c.tasks.toNat l).lv) := by rw [Hid]; unfold lvOut; rw [if_pos he]
    have t0 : (cfgErr c != 0) = false := by simp [he]
    clear he
    unfold cfgV
    go_enter Tryz.func43, Tryz.ntmps43
    go_wp2_with fail
    refine (cfgCheck_any c p _ (hc.up hB0)).mono ?_; rintro e w1 ⟨rfl, hb1⟩
    have hB1 := below_next hB0 hb1
    obtain ⟨hcs1, hfz1⟩ := bcell hb1
    clear hB0
    go_wp2_with fail
    clear hcs1 hfz1
    refine (play_any c p A cap l _ (hl.up hB1) hn hwf ht1 ht2).mono ?_; rintro e w2 ⟨nm, ⟨g, bl, cl, bf, bm, rfl, hp⟩, hb⟩
    have hB2 := below_next hB1 hb
    have Hll := Lib.hid hp.wf.lv
    have hcS := hp.st.cell
    go_wp2_with fail
    go_ret
    exact ⟨⟨some ⟨bl, 0, none⟩, cl, by rw [Hout.out, Hll.out]; rfl, by rw [Hout.out]; exact arr_sl hp.lv (by rw [Hll.out]; omega)⟩, hB2⟩
  · have Hout : Hid (lvOut c l = []) := by rw [Hid]; unfold lvOut; rw [if_neg he]
    have t0 : (cfgErr c != 0) = true := by simpa using he
    clear he
    unfold cfgV
    go_enter Tryz.func43, Tryz.ntmps43
    go_wp2_with fail
    refine (cfgCheck_any c p _ (hc.up hB0)).mono ?_; rintro e w1 ⟨rfl, hb1⟩
    have hB1 := below_next hB0 hb1
    go_wp2_with fail
    go_ret
    exact ⟨⟨none, 0, by rw [Hout.out]; rfl, by rw [Hout.out]; exact Sl.nil⟩, hB1⟩
end Go.Proofs.YtpbkelpokpglaaaGreat
