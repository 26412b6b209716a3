/- Walks: the program's first state, and all events applied (layer 30). -/
import Derived.Test.YtpbkelpokpglaaaGreatInh2
import Derived.Test.YtpbkelpokpglaaaGreatCfg3
set_option linter.all false
namespace Go.Proofs.YtpbkelpokpglaaaGreat
open Go.RowKit Go.Maps
theorem apply_any {B : Nat} {w : World} {g bl cl bf bm : Nat} {s : Inh} {n nm : Nat} {e : Ev} (h : PInh B w g bl cl bf bm s n nm) (he : EvOk e) (hm : nm < 1048576) :
    Calls Tryz.prog 65 #[.pointer (some ⟨g, 0, none⟩), evV e] w (ApplyP B w g bl cl bf bm s n nm e) := by
  by_cases h0 : e.task < 0
  · exact apply_out h he hm (.inl h0)
  by_cases h1 : (n : Int) ≤ e.task
  · exact apply_out h he hm (.inr h1)
  by_cases k1 : e.kind = 1
  · exact apply_set1 h he hm (by omega) (by omega) k1
  by_cases k3 : e.kind = 3
  · exact apply_set3 h he hm (by omega) (by omega) k3
  by_cases k11 : e.kind = 11
  · exact apply_raise11 h he hm (by omega) (by omega) k11
  by_cases k12 : e.kind = 12
  · exact apply_raise12 h he hm (by omega) (by omega) k12
  by_cases k6 : e.kind = 6
  · exact apply_block h he hm (by omega) (by omega) k6
  by_cases k7 : e.kind = 7
  · exact apply_settle h he hm (by omega) (by omega) k7
  by_cases k9 : e.kind = 9
  · exact apply_resume h he hm (by omega) (by omega) k9
  by_cases k10 : e.kind = 10
  · exact apply_finish h he hm (by omega) (by omega) k10
  exact apply_other h he hm (by omega) (by omega) ⟨k1, k3, k11, k12, k6, k7, k9, k10⟩
theorem intInfo1 : (Tryz.prog.info? 3).map (fun i => (i.zero, i.size, i.bytes)) = some (some (.int .i64 0), 1, 8) := by kernel_rfl
theorem boolInfo : (Tryz.prog.info? 4).map (fun i => (i.zero, i.size, i.bytes)) = some (some (.bool false), 1, 1) := by kernel_rfl
theorem made_rep (v : Value) (n : Nat) : madeCells #[v] n = (List.replicate n v).toArray := by
  apply Array.ext
  · simp [madeCells]
  · intro i h1 h2
    simp [madeCells, Nat.mod_one]
theorem makeBools (n : Int) (h0 : 0 ≤ n) (h1 : n ≤ 1048576) (w : World) : (Instr.makeSlice 133 (.int .i64 n) (.int .i64 n)).run Tryz.prog w = .ok (.slice (some ⟨w.heap.size, 0, none⟩) n.toNat n.toNat) (w.alloc (.cells (madeCells #[.bool false] n.toNat) 4)) := by
  obtain ⟨i0, hi, hz0, hz1, hz2⟩ := info_parts boolInfo
  have := run_make (P := Tryz.prog) w 133 4 i0 (.bool false) Tryz.underlying133 hi hz0 .i64 .i64 n n h0 (by omega) (by rw [hz2]; omega) (by omega)
  rw [hz1, Nat.mul_one] at this
  exact this
theorem row_map {w : World} {base n b nm : Nat} {e : TypeId} {v : Value} {xs : List Value} {f : Int → Option Wt} (h : w.ownsRow base e 1 v n xs) (hm : WMap w b nm f) : some b ≠ v.ownBlock := by
  rcases h.2 with ⟨rfl, _⟩ | ⟨g, cap, cur, rfl, _, h2, _⟩
  · simp [Value.ownBlock]
  · intro e
    simp [Value.ownBlock] at e
    subst e
    exact hm.blk_ne (show Blk w b _ cur from h2) rfl
theorem row_arr {w : World} {base n b : Nat} {e t : TypeId} {v : Value} {xs vs : List Value} (h : w.ownsRow base e 1 v n xs) (hm : Arr w b t vs) (hne : t ≠ e) : some b ≠ v.ownBlock := by
  obtain ⟨cs, hB, _⟩ := hm
  exact blk_row hB h hne
/-- Where newState stands in round k. -/
structure NewSt (w : World) (g bf bm n k : Nat) (v : Value) (wr : World) : Prop where
  bel : Below w.heap.size w wr
  st : Blk wr g 136 #[v, .slice (some ⟨bf, 0, none⟩) n n, .map (some bm)]
  row : wr.ownsRow w.heap.size 3 1 v k (List.replicate k (.int .i64 (-1)))
  fin : Arr wr bf 4 (List.replicate n (.bool false))
  ws : WMap wr bm 0 (fun _ => none)
  xg : w.heap.size ≤ g
  xf : w.heap.size ≤ bf
  xm : w.heap.size ≤ bm
def NewP (w : World) (s : Inh) (n : Nat) (nm : Nat) (e : Ending) (w' : World) : Prop :=
  (∃ g bl cl bf bm, e = .returned (.pointer (some ⟨g, 0, none⟩)) ∧ PInh w.heap.size w' g bl cl bf bm s n nm) ∧ Below w.heap.size w w'
set_option maxRecDepth 100000 in
set_option maxHeartbeats 1000000 in
theorem newState_any (c : Cfg) (p : CfgAt) (w : World) (h1 : 1 ≤ c.tasks) (h2 : c.tasks ≤ 256) :
    Calls Tryz.prog 64 #[cfgV c p] w (NewP w (inh0 c.tasks.toNat) c.tasks.toNat 0) := by
  obtain ⟨i0, hi0, hz0, hs0, hb0⟩ := info_parts intInfo1
  have hmk := fun W : World => makeBools c.tasks (by omega) (by omega) W
  have hmm := @run_makeMap Tryz.prog
  unfold cfgV
  go_enter Tryz.func64, Tryz.ntmps64
  go_wp2_with fail
  obtain ⟨bf, hbf⟩ : ∃ b : Nat, b = w.heap.size + 1 := ⟨_, rfl⟩
  obtain ⟨bm, hbm⟩ : ∃ b : Nat, b = w.heap.size + 1 + 1 := ⟨_, rfl⟩
  obtain ⟨g, hg⟩ : ∃ b : Nat, b = w.heap.size + 1 + 1 + 1 := ⟨_, rfl⟩
  have hSt : NewSt w g bf bm c.tasks.toNat 0 (.slice none 0 0) ((((w.alloc (cfgBox c p)).alloc (.cells (madeCells #[.bool false] c.tasks.toNat) 4)).alloc (.map #[] 0)).alloc (.cells #[.slice none 0 0, .slice (some ⟨bf, 0, none⟩) c.tasks.toNat c.tasks.toNat, .map (some bm)] 136)) :=
    ⟨by repeat' (first | (with_reducible exact Below.refl _ _) | (with_reducible refine Below.alloc ?_ (by first | omega | (simp <;> omega)) _)),
     Blk.new_at (by simp; omega), World.ownsRow_nil _ _ _ _, Arr.alloc (Arr.alloc (Arr.of_blk (Blk.new_at (by simp; omega)) (by rw [made_rep])) _) _,
     WMap.alloc (by have := WMap.new ((w.alloc (cfgBox c p)).alloc (.cells (madeCells #[.bool false] c.tasks.toNat) 4)); simpa [hbm] using this) _, by omega, by omega, by omega⟩
  simp only [← hg]
  simp only [← hbm]
  simp only [← hbf]
  clear hg hbm hbf hmk hmm
  go_loopw [12] (fun i wr => ∃ (k : Nat) (v : Value), k ≤ c.tasks.toNat ∧ i = .int .i64 k ∧ NewSt w g bf bm c.tasks.toNat k v wr) (fun i _ => c.tasks.toNat - (intOf i).toNat)
  case atStart => exact ⟨0, _, by omega, rfl, hSt⟩
  case round =>
    clear hSt
    obtain ⟨k, v, hk, rfl, hs⟩ := hrel
    obtain ⟨A, cap, hv⟩ := row_slice hs.row
    subst hv
    by_cases hlt : (k : Int) < c.tasks
    · have hcS := hs.st.cell
      have hfS := hs.st.frozen
      have hlg := hs.st.lt
      have hsz := hs.bel.size
      have hneS := blk_row hs.st hs.row (by decide)
      have hneF := row_arr hs.row hs.fin (by decide)
      have hneM := row_map hs.row hs.ws
      have hlow := hs.row.lt
      have hrowA := hs.row.alloc (.cells #[.int .i64 (-1)] 3)
      go_wp2_with (first | (at_builtin; go_loud (refine wpList_append_own_at _ rfl _ _ 23 rfl w.heap.size 3 i0 (.int .i64 0) 1 8 Tryz.underlying23 hi0 hz0 hs0 hb0 rfl (by decide) _ _ _ rfl hrowA ⟨wr.heap.size, 0, none⟩ 1 1 [.int .i64 (-1)] rfl rfl ?c1 ?c2 ?c3 ?c4 ?c5 ?_)) | fail)
      case c1 => exact cells_new_at (by simp)
      case c2 => intro u hu; simp at hu; rcases hu with rfl; rfl
      case c3 => unfold maxLen; omega
      case c4 => omega
      case c5 => simp; omega
      intro v' w' hown' hgrow _ _
      obtain ⟨A', cap', hv'⟩ := row_slice hown'
      subst hv'
      have hst' := (hs.st.alloc (.cells #[.int .i64 (-1)] 3)).grown hgrow hneS
      have hfin' := (hs.fin.alloc (.cells #[.int .i64 (-1)] 3)).grown hgrow hneF
      have hws' := (hs.ws.alloc (.cells #[.int .i64 (-1)] 3)).kept hgrow hneM
      have hbel' := below_grown (hs.bel.alloc hsz (.cells #[.int .i64 (-1)] 3)) hgrow (by simp; omega) (fun x e => (hlow x e).1)
      have hcS' := hst'.cell
      have hfS' := hst'.frozen
      have hlg' := hst'.lt
      clear hrowA hgrow hlow hcS hfS hneS hneF hneM
      go_wp2
      go_roundw
      case rel => exact ⟨k + 1, _, by omega, by go_num, hbel'.setCell hs.xg _, (hst'.set_ 0 _).of_eq rfl, row_set (by simpa [List.replicate_succ'] using hown') hst' (by decide) 0 _, hfin'.far (Ne.symm (by have := arr_blk_ne hfin' hst' (by decide); simpa using this.symm)) _, hws'.setCell (hws'.blk_ne hst') _, hs.xg, hs.xf, hs.xm⟩
      case measure => simp [intOf] <;> omega
    · have e : k = c.tasks.toNat := by omega
      subst e
      obtain ⟨bl, cl, hv, hxl, hl⟩ := Arr.of_row hs.row (by omega)
      injection hv with hv1 _ hv2
      subst hv1 hv2
      go_wp2
      go_ret
      exact ⟨⟨g, bl, cap, bf, bm, rfl, hs.st, hl.of_eq (by simp [inh0]), hs.fin.of_eq (by simp [inh0]), hs.ws.of_eq (by funext k; unfold wsF; split <;> simp [inh0, List.getD, List.getElem?_replicate] <;> split <;> rfl), inh0_wf _, by omega, by omega, by omega, hs.xg, hxl, hs.xf, hs.xm⟩, hs.bel⟩
/-- An element of a slice of events, cell by cell. -/
theorem ev_cells {w : World} {B : Nat} {A : Option Addr} {l : List Ev} (h : Sl Ev.enc 5 w B A l) {i : Nat} (hi : i < l.length) : ∃ b o, A = some ⟨b, o, none⟩ ∧ b < B ∧
    ∀ (k : Nat) (hk : k < l.length), w.cell? ⟨b, o + k * 5, none⟩ = some (.int .i64 l[k].kind) ∧ w.cell? ⟨b, o + k * 5 + 1, none⟩ = some (.int .i64 l[k].worker) ∧ w.cell? ⟨b, o + k * 5 + 2, none⟩ = some (.int .i64 l[k].task) ∧
      w.cell? ⟨b, o + k * 5 + 3, none⟩ = some (.int .i64 l[k].other) ∧ w.cell? ⟨b, o + k * 5 + 4, none⟩ = some (.int .i64 l[k].level) := by
  obtain ⟨b, o, e, hb, hc⟩ := h.at_ hi
  exact ⟨b, o, e, hb, fun k hk => ⟨hc k hk 0 _ rfl, hc k hk 1 _ rfl, hc k hk 2 _ rfl, hc k hk 3 _ rfl, hc k hk 4 _ rfl⟩⟩
def EvsOk (l : List Ev) : Prop := ∀ k (hk : k < l.length), EvOk l[k]
/-- Where play stands in round k. -/
def PlaySt (w : World) (n : Nat) (l : List Ev) (g bl cl bf bm k : Nat) (wr : World) : Prop := (∃ nm, nm ≤ k ∧ PInh w.heap.size wr g bl cl bf bm (playI n (l.take k)) n nm) ∧ Below w.heap.size w wr
set_option maxRecDepth 100000 in
set_option maxHeartbeats 1000000 in
theorem play_any (c : Cfg) (p : CfgAt) (A : Option Addr) (cap : Nat) (l : List Ev) (w : World) (hl : Sl Ev.enc 5 w w.heap.size A l) (hn : l.length ≤ 1000000) (hwf : EvsOk l) (h1 : 1 ≤ c.tasks) (h2 : c.tasks ≤ 256) :
    Calls Tryz.prog 67 #[cfgV c p, .slice A l.length cap] w fun e w' => ∃ nm, NewP w (playI c.tasks.toNat l) c.tasks.toNat nm e w' := by
  have hB0 : Below w.heap.size w (w.alloc (cfgBox c p)) := (Below.refl _ _).alloc (Nat.le_refl _) _
  unfold cfgV
  go_enter Tryz.func67, Tryz.ntmps67
  go_wp2_with fail
  refine (newState_any c p _ h1 h2).mono ?_; rintro e w1 ⟨⟨g, bl, cl, bf, bm, rfl, hp⟩, hb⟩
  have hB1 := below_next hB0 hb
  replace hp := hp.down (B' := w.heap.size) (by simp)
  clear hb hB0
  have hSt : PlaySt w c.tasks.toNat l g bl cl bf bm 0 w1 := ⟨⟨0, by omega, hp⟩, hB1⟩
  clear hp hB1
  go_wp2_with fail
  go_loopw [12] (fun i wr => ∃ k : Nat, k ≤ l.length ∧ i = .int .i64 k ∧ PlaySt w c.tasks.toNat l g bl cl bf bm k wr) (fun i _ => l.length - (intOf i).toNat)
  case atStart => exact ⟨0, by omega, rfl, hSt⟩
  case round =>
    clear hSt
    obtain ⟨k, hk, rfl, ⟨nm, hnm, hp⟩, hb⟩ := hrel
    by_cases hlt : k < l.length
    · obtain ⟨b, o, rfl, hbb, hcc⟩ := ev_cells (hl.up hb) hlt
      obtain ⟨c0, c1, c2, c3, c4⟩ := hcc k hlt
      have hok := hwf k hlt
      have hpa := hp.alloc (evBox l[k])
      have hba := hb.alloc hb.size (evBox l[k])
      have Hst := Lib.hid (playI_take (n := c.tasks.toNat) hlt)
      go_wp2_with fail
      refine (apply_any hpa hok (by omega)).mono ?_; rintro e w2 ⟨rfl, ⟨nm', hnm', hp2⟩, hb2⟩
      go_wp2
      go_roundw
      case rel => exact ⟨k + 1, by omega, by go_num, ⟨nm', by omega, by rw [Hst.out]; exact hp2⟩, hba.trans hb2⟩
      case measure => simp [intOf] <;> omega
    · have e : k = l.length := by omega
      subst e
      have Hst : Hid (playI c.tasks.toNat (l.take l.length) = playI c.tasks.toNat l) := by rw [Hid, List.take_length]
      go_wp2
      go_ret
      exact ⟨nm, ⟨g, bl, cl, bf, bm, rfl, by rw [← Hst.out]; exact hp⟩, hb⟩
end Go.Proofs.YtpbkelpokpglaaaGreat
