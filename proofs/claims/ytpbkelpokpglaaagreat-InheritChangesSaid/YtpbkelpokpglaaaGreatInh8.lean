/- Walk: the reference's floors (layer 30). -/
import Derived.Test.YtpbkelpokpglaaaGreatInh7
set_option linter.all false
namespace Go.Proofs.YtpbkelpokpglaaaGreat
open Go.RowKit Go.Maps
theorem chainF_w {ws : List (Option Wt)} {p : Int} {m : Nat} {x : Int} {F : List (Option Int)} (h0 : 0 ≤ x) (h1 : x < ws.length) :
    chainF ws p (m + 1) x F = if ((ws.getD x.toNat none).getD wtZ).settled then chainF ws p m ((ws.getD x.toNat none).getD wtZ).child (upF F x.toNat p) else upF F x.toNat p := by
  have e : wsF ws x = ws.getD x.toNat none := by unfold wsF; rw [if_neg (by omega)]
  have := chainF_z (p := p) (m := m) (F := F) h0 h1
  rwa [e] at this
theorem floorsTo_w {ws : List (Option Wt)} {m t : Nat} : floorsTo ws m (t + 1) = if ((ws.getD t none).getD wtZ).settled then chainF ws ((ws.getD t none).getD wtZ).level m ((ws.getD t none).getD wtZ).child (floorsTo ws m t) else floorsTo ws m t := by
  have e : wsF ws (t : Int) = ws.getD t none := by unfold wsF; rw [if_neg (by omega), Int.toNat_natCast]
  have := floorsTo_z (ws := ws) (m := m) (t := t)
  rwa [e] at this
def outR (F : List (Option Int)) : List Value := F.map fun o => .int .i64 (o.getD 0)
def mixV (F : List (Option Int)) (k : Nat) : List Value := (List.range F.length).map fun i => .int .i64 (if i < k then (F.getD i none).getD (-1) else (F.getD i none).getD 0)
theorem mix0 (F : List (Option Int)) : outR F = mixV F 0 := by
  apply List.ext_getElem (by simp [outR, mixV])
  intro i h1 h2
  simp [outR] at h1
  simp [outR, mixV, List.getD, h1]
theorem mixN (F : List (Option Int)) : mixV F F.length = F.map fun o => Value.int .i64 (o.getD (-1)) := by
  apply List.ext_getElem (by simp [mixV])
  intro i h1 h2
  simp [mixV] at h1
  simp [mixV, List.getD, h1]
theorem mix_set {F : List (Option Int)} {k : Nat} (h : F.getD k none = none) : (mixV F k).set k (.int .i64 (-1)) = mixV F (k + 1) := by
  apply List.ext_getElem (by simp [mixV])
  intro i h1 h2
  simp [mixV] at h1
  by_cases e : k = i
  · subst e
    simp only [List.getElem_set_self, mixV, List.getElem_map, List.getElem_range]
    rw [if_pos (by omega), h]; rfl
  · rw [List.getElem_set_ne e]
    simp only [mixV, List.getElem_map, List.getElem_range]
    by_cases hi : i < k
    · rw [if_pos hi, if_pos (by omega)]
    · rw [if_neg hi, if_neg (by omega)]
theorem mix_keep {F : List (Option Int)} {k : Nat} {v : Int} (h : F.getD k none = some v) : mixV F k = mixV F (k + 1) := by
  unfold mixV
  apply List.map_congr_left
  intro i hi
  by_cases e : i = k
  · subst e; rw [if_neg (by omega), if_pos (by omega), h]; rfl
  · by_cases hi2 : i < k
    · rw [if_pos hi2, if_pos (by omega)]
    · rw [if_neg hi2, if_neg (by omega)]
/-- The floors F in memory (blocks bo and bh), beside a state of the reference. -/
structure RFl (w : World) (B g bl cl bf cf bw cw : Nat) (s : Inh) (n bo bh : Nat) (F : List (Option Int)) (wr : World) : Prop where
  bel : Below w.heap.size w wr
  st : RInh B wr g bl cl bf cf bw cw s n
  out : Arr wr bo 3 (outR F)
  has : Arr wr bh 4 (hasV F)
  len : F.length = n
  xo : w.heap.size ≤ bo
  xh : w.heap.size ≤ bh
section
variable {w wr : World} {B g bl cl bf cf bw cw : Nat} {s : Inh} {n bo bh : Nat} {F : List (Option Int)}
theorem RFl.drewN (h : RFl w B g bl cl bf cf bw cw s n bo bh F wr) (k : Nat) : RFl w B g bl cl bf cf bw cw s n bo bh F (wr.drewN k) := ⟨below_drewN h.bel k, h.st.drewN k, h.out.drewN k, h.has.drewN k, h.len, h.xo, h.xh⟩
theorem RFl.outAt (h : RFl w B g bl cl bf cf bw cw s n bo bh F wr) {i : Nat} (hi : i < n) : wr.cell? ⟨bo, i, none⟩ = some (.int .i64 ((F.getD i none).getD 0)) := by
  have hl := h.len
  exact h.out.cell (by simp [outR, List.getD, show i < F.length from by omega])
theorem RFl.hasAt (h : RFl w B g bl cl bf cf bw cw s n bo bh F wr) {i : Nat} (hi : i < n) : wr.cell? ⟨bh, i, none⟩ = some (.bool (F.getD i none).isSome) := by
  have hl := h.len
  exact h.has.cell (by simp [hasV, List.getD, show i < F.length from by omega])
theorem RFl.put (h : RFl w B g bl cl bf cf bw cw s n bo bh F wr) (hs : RInh B w g bl cl bf cf bw cw s n) {i : Nat} (hi : i < n) (p : Int) :
    RFl w B g bl cl bf cf bw cw s n bo bh (F.set i (some p)) ((wr.setCell ⟨bo, i, none⟩ (.int .i64 p)).setCell ⟨bh, i, none⟩ (.bool true)) := by
  have hl := h.len
  have hb := (h.bel.setCell (p := ⟨bo, i, none⟩) h.xo (.int .i64 p)).setCell (p := ⟨bh, i, none⟩) h.xh (.bool true)
  have e1 := (h.out.set_ i (by simp [outR]; omega) (.int .i64 p)).of_eq (vs' := outR (F.set i (some p))) (by simp [outR, List.map_set])
  have e2 := h.has.far (p := ⟨bo, i, none⟩) (arr_ne h.has h.out (by decide)) (.int .i64 p)
  have e3 := (e2.set_ i (by simp [hasV]; omega) (.bool true)).of_eq (vs' := hasV (F.set i (some p))) (by simp [hasV, List.map_set])
  exact ⟨hb, hs.below hb (Nat.le_refl _), e1.far (p := ⟨bh, i, none⟩) (arr_ne e1 e2 (by decide)) _, e3, by simpa using h.len, h.xo, h.xh⟩
end
/-- The last loop: where there is no floor, -1 is laid. -/
structure MixSt (w : World) (n bo bh k : Nat) (F : List (Option Int)) (wr : World) : Prop where
  bel : Below w.heap.size w wr
  out : Arr wr bo 3 (mixV F k)
  has : Arr wr bh 4 (hasV F)
  len : F.length = n
  xo : w.heap.size ≤ bo
set_option maxRecDepth 100000 in
set_option maxHeartbeats 4000000 in
theorem rfloor_any {B : Nat} {w : World} {g bl cl bf cf bw cw : Nat} {s : Inh} {n : Nat} (h : RInh B w g bl cl bf cf bw cw s n) : Calls Tryz.prog 72 #[.pointer (some ⟨g, 0, none⟩)] w (FlP w s n) := by
  have hn1 := h.n1
  have hn2 := h.n2
  have hmi := fun W : World => makeIntz n (by omega) W
  have hmb := fun W : World => makeBoolz n (by omega) W
  have hcS := h.st.cell
  have hlg := h.st.lt
  have hz0 : outR (floorsTo s.ws (n + 1) 0) = List.replicate n (.int .i64 0) := by simp [outR, floorsTo, h.wf.ws]
  have hz1 : hasV (floorsTo s.ws (n + 1) 0) = List.replicate n (.bool false) := by simp [hasV, floorsTo, h.wf.ws]
  have Hz0 := Lib.hid hz0
  have Hz1 := Lib.hid hz1
  have Hlen := Lib.hid (show (floorsTo s.ws (n + 1) 0).length = n by rw [floorsTo_length, h.wf.ws])
  clear hz0 hz1
  go_enter Tryz.func72, Tryz.ntmps72
  go_wp2_with fail
  go_region
  · obtain ⟨bh, hbh⟩ : ∃ b : Nat, b = w.heap.size + 1 := ⟨_, rfl⟩
    obtain ⟨bo, hbo⟩ : ∃ b : Nat, b = w.heap.size := ⟨_, rfl⟩
    have hbel : Below w.heap.size w ((w.alloc (.cells (madeCells #[.int .i64 0] n) 3)).alloc (.cells (madeCells #[.bool false] n) 4)).drew := (((Below.refl _ _).alloc (Nat.le_refl _) _).alloc (by simp) _).drew
    have hf : RFl w B g bl cl bf cf bw cw s n bo bh (floorsTo s.ws (n + 1) 0) ((w.alloc (.cells (madeCells #[.int .i64 0] n) 3)).alloc (.cells (madeCells #[.bool false] n) 4)).drew :=
      ⟨hbel, h.below hbel (Nat.le_refl _), (((Arr.of_blk (Blk.new_at hbo) (by rw [made_rep])).alloc _).drewN 1).of_eq Hz0.out.symm, ((Arr.of_blk (Blk.new_at (by simp; omega)) (by rw [made_rep])).drewN 1).of_eq Hz1.out.symm, Hlen.out, by omega, by omega⟩
    simp only [← hbh]
    simp only [← hbo]
    clear hmi hmb hbo hbh hbel hcS
    go_wp2
    go_loopw [5] (fun i wr => ∃ t : Nat, t ≤ n ∧ i = .int .i64 t ∧ RFl w B g bl cl bf cf bw cw s n bo bh (floorsTo s.ws (n + 1) t) wr) (fun i _ => n - (intOf i).toNat)
    case atStart => exact ⟨0, by omega, rfl, hf⟩
    case round =>
      clear hf
      obtain ⟨t, ht, rfl, hf⟩ := hrel
      by_cases hlt : t < n
      · have hcS2 := hf.st.st.cell
        have Hz := Lib.hid (floorsTo_w (ws := s.ws) (m := n + 1) (t := t))
        obtain ⟨w0, w1, w2, w3, w4⟩ := rwsAt hf.st hlt
        clear w0 w3
        obtain ⟨z, hz⟩ : ∃ z, z = (s.ws.getD t none).getD wtZ := ⟨_, rfl⟩
        rw [← hz] at Hz w1 w2 w4
        clear hz
        obtain ⟨zc, zw, zs, zl⟩ := z
        simp only at w1 w2 w4
        cases zs with
        | true =>
          have Hz2 : Hid (floorsTo s.ws (n + 1) (t + 1) = chainF s.ws zl (n + 1) zc (floorsTo s.ws (n + 1) t)) := by have := Hz.out; simp only [if_true] at this; exact this
          go_wp2
          go_quiet (fail)
          go_wp2
          have hfq := hf.drewN nq
          generalize wr.drewN nq = wo at hfq ⊢
          clear hcS2 Hz w1 w2 w4 hf
          obtain ⟨T, hT⟩ : ∃ T, T = floorsTo s.ws (n + 1) (t + 1) := ⟨_, rfl⟩
          have HT := Lib.hid hT
          rw [← hT] at Hz2
          clear hT
          go_loopw [7, 8] (fun xv jv wi => ∃ (j : Nat) (x : Int) (F : List (Option Int)), j ≤ n + 1 ∧ jv = .int .i64 j ∧ xv = .int .i64 x ∧ RFl w B g bl cl bf cf bw cw s n bo bh F wi ∧ Hid (T = chainF s.ws zl (n + 1 - j) x F)) (fun _ jv _ => n + 1 - (intOf jv).toNat)
          case atStart => exact ⟨0, _, _, by omega, rfl, rfl, hfq, Hz2⟩
          case round =>
            clear hfq Hz2
            obtain ⟨j, x, F, hj, rfl, rfl, hf, Hc⟩ := hrel
            have hwl := hf.st.wf.ws
            by_cases hjn : (j : Int) ≤ (n : Int)
            · by_cases hx0 : x < 0
              · have Hd : Hid (T = F) := by rw [Hid, Hc.out]; exact chainF_out _ _ _ _ _ (.inl hx0)
                go_wp2
                go_roundw
                case rel => exact ⟨t + 1, by omega, by go_num, by rw [← HT.out, Hd.out]; exact hf⟩
                case measure => simp [intOf] <;> omega
              by_cases hxn : (n : Int) ≤ x
              · have Hd : Hid (T = F) := by rw [Hid, Hc.out]; exact chainF_out _ _ _ _ _ (.inr (by omega))
                go_wp2
                go_roundw
                case rel => exact ⟨t + 1, by omega, by go_num, by rw [← HT.out, Hd.out]; exact hf⟩
                case measure => simp [intOf] <;> omega
              have Hst := Lib.hid (chainF_w (ws := s.ws) (p := zl) (m := n - j) (x := x) (F := F) (by omega) (by omega))
              have Hc2 : Hid (T = chainF s.ws zl (n - j + 1) x F) := by rw [Hid, Hc.out]; congr 1; omega
              obtain ⟨w0, w1, w2, w3, w4⟩ := rwsAt hf.st (i := x.toNat) (by omega)
              clear w0 w3 w4
              obtain ⟨y, hy⟩ : ∃ y, y = (s.ws.getD x.toNat none).getD wtZ := ⟨_, rfl⟩
              rw [← hy] at Hst w1 w2
              clear hy
              obtain ⟨yc, yw, ys, yl⟩ := y
              simp only at w1 w2
              have ho := hf.outAt (i := x.toNat) (by omega)
              have hh := hf.hasAt (i := x.toNat) (by omega)
              have hlo := hf.out.lt
              have hlh := hf.has.lt
              have hfo := hf.out.frozen
              have hfh := hf.has.frozen
              have hoh := arr_ne hf.out hf.has (by decide)
              have hlw := hf.st.ws.lt
              have hcS2 := hf.st.st.cell
              have hgo := Ne.symm (arr_blk_ne hf.out hf.st.st (by decide))
              have hgh := Ne.symm (arr_blk_ne hf.has hf.st.st (by decide))
              have hwo := arr_ne hf.st.ws hf.out (by decide)
              have hwh := arr_ne hf.st.ws hf.has (by decide)
              cases hF : F.getD x.toNat none with
              | none =>
                have Hup : Hid (upF F x.toNat zl = F.set x.toNat (some zl)) := by rw [Hid]; unfold upF; rw [hF]
                rw [hF] at ho hh
                simp only [Option.isSome_none, Option.getD_none] at ho hh
                clear hF
                cases ys with
                | true =>
                  have Hn : Hid (T = chainF s.ws zl (n + 1 - (j + 1)) yc (F.set x.toNat (some zl))) := by have e1 := Hst.out; simp only [if_true] at e1; rw [Hup.out] at e1; rw [Hid, Hc2.out, e1]; congr 1; omega
                  go_wp2
                  go_roundw
                  case rel => exact ⟨j + 1, _, _, by omega, by go_num, rfl, hf.put h (i := x.toNat) (by omega) zl, Hn⟩
                  case measure => simp [intOf] <;> omega
                | false =>
                  have Hn : Hid (T = (F.set x.toNat (some zl))) := by have e1 := Hst.out; simp only [Bool.false_eq_true, if_false] at e1; rw [Hup.out] at e1; rw [Hid, Hc2.out, e1]
                  go_wp2
                  go_roundw
                  case rel => exact ⟨t + 1, by omega, by go_num, by rw [← HT.out, Hn.out]; exact hf.put h (i := x.toNat) (by omega) zl⟩
                  case measure => simp [intOf] <;> omega
              | some v =>
                rw [hF] at ho hh
                simp only [Option.isSome_some, Option.getD_some] at ho hh
                by_cases hv : v < zl
                · have Hup : Hid (upF F x.toNat zl = F.set x.toNat (some zl)) := by rw [Hid]; unfold upF; rw [hF]; simp only; rw [if_pos hv]
                  clear hF
                  cases ys with
                  | true =>
                    have Hn : Hid (T = chainF s.ws zl (n + 1 - (j + 1)) yc (F.set x.toNat (some zl))) := by have e1 := Hst.out; simp only [if_true] at e1; rw [Hup.out] at e1; rw [Hid, Hc2.out, e1]; congr 1; omega
                    go_wp2
                    go_roundw
                    case rel => exact ⟨j + 1, _, _, by omega, by go_num, rfl, hf.put h (i := x.toNat) (by omega) zl, Hn⟩
                    case measure => simp [intOf] <;> omega
                  | false =>
                    have Hn : Hid (T = (F.set x.toNat (some zl))) := by have e1 := Hst.out; simp only [Bool.false_eq_true, if_false] at e1; rw [Hup.out] at e1; rw [Hid, Hc2.out, e1]
                    go_wp2
                    go_roundw
                    case rel => exact ⟨t + 1, by omega, by go_num, by rw [← HT.out, Hn.out]; exact hf.put h (i := x.toNat) (by omega) zl⟩
                    case measure => simp [intOf] <;> omega
                · have Hup : Hid (upF F x.toNat zl = F) := by rw [Hid]; unfold upF; rw [hF]; simp only; rw [if_neg hv]
                  clear hF
                  cases ys with
                  | true =>
                    have Hn : Hid (T = chainF s.ws zl (n + 1 - (j + 1)) yc F) := by have e1 := Hst.out; simp only [if_true] at e1; rw [Hup.out] at e1; rw [Hid, Hc2.out, e1]; congr 1; omega
                    go_wp2
                    go_roundw
                    case rel => exact ⟨j + 1, _, _, by omega, by go_num, rfl, hf, Hn⟩
                    case measure => simp [intOf] <;> omega
                  | false =>
                    have Hn : Hid (T = F) := by have e1 := Hst.out; simp only [Bool.false_eq_true, if_false] at e1; rw [Hup.out] at e1; rw [Hid, Hc2.out, e1]
                    go_wp2
                    go_roundw
                    case rel => exact ⟨t + 1, by omega, by go_num, by rw [← HT.out, Hn.out]; exact hf⟩
                    case measure => simp [intOf] <;> omega
            · have e : n + 1 - j = 0 := by omega
              have Hd : Hid (T = F) := by rw [Hid, Hc.out, e]; rfl
              clear e
              go_wp2
              go_roundw
              case rel => exact ⟨t + 1, by omega, by go_num, by rw [← HT.out, Hd.out]; exact hf⟩
              case measure => simp [intOf] <;> omega
        | false =>
          have Hz2 : Hid (floorsTo s.ws (n + 1) (t + 1) = floorsTo s.ws (n + 1) t) := by have := Hz.out; rw [Hid]; simpa using this
          go_wp2
          go_roundw
          case rel => exact ⟨t + 1, by omega, by go_num, by rw [Hz2.out]; exact hf⟩
          case measure => simp [intOf] <;> omega
      · obtain rfl : n = t := by omega
        have hlF := hf.len
        have hm : MixSt w n bo bh 0 (floorsTo s.ws (n + 1) n) wr := ⟨hf.bel, hf.out.of_eq (mix0 _), hf.has, hf.len, hf.xo⟩
        have Hfin : Hid (mixV (floorsTo s.ws (n + 1) n) n = (floorsOut s).map (Value.int .i64)) := by
          rw [Hid]
          have e1 := floorsTo_more s.ws n
          rw [h.wf.ws] at e1
          have e2 := mixN (floorsTo s.ws (n + 1) n)
          rw [hlF] at e2
          rw [e2, e1]
          unfold floorsOut floorsI
          rw [h.wf.ws]
          simp [List.map_map, Function.comp_def]
        obtain ⟨F, hF⟩ : ∃ F, F = floorsTo s.ws (n + 1) n := ⟨_, rfl⟩
        rw [← hF] at hm Hfin hlF
        clear hF hf
        go_wp2
        go_loopw [9] (fun i wi => ∃ k : Nat, k ≤ n ∧ i = .int .i64 k ∧ MixSt w n bo bh k F wi) (fun i _ => n - (intOf i).toNat)
        case atStart => exact ⟨0, by omega, rfl, hm⟩
        case round =>
          clear hm
          obtain ⟨k, hk, rfl, hm⟩ := hrel
          by_cases hlt2 : k < n
          · have hlo := hm.out.lt
            have hfo := hm.out.frozen
            have hho := arr_ne hm.has hm.out (by decide)
            have c0 : wr.cell? ⟨bo, k, none⟩ = some (.int .i64 ((F.getD k none).getD 0)) := hm.out.cell (by simp [mixV, List.getD, show k < F.length from by omega])
            have c1 : wr.cell? ⟨bh, k, none⟩ = some (.bool (F.getD k none).isSome) := hm.has.cell (by simp [hasV, List.getD, show k < F.length from by omega])
            cases hF : F.getD k none with
            | none =>
              rw [hF] at c0 c1
              simp only [Option.isSome_none, Option.getD_none] at c0 c1
              have Hs := Lib.hid (mix_set hF)
              have hlen : k < (mixV F k).length := by simp [mixV]; omega
              clear hF hlF
              go_wp2
              go_roundw
              case rel => exact ⟨k + 1, by omega, by go_num, hm.bel.setCell hm.xo _, (hm.out.set_ k hlen _).of_eq Hs.out, hm.has.far hho _, hm.len, hm.xo⟩
              case measure => simp [intOf] <;> omega
            | some v =>
              rw [hF] at c0 c1
              simp only [Option.isSome_some, Option.getD_some] at c0 c1
              have Hs := Lib.hid (mix_keep hF)
              clear hF hlF
              go_wp2
              go_roundw
              case rel => exact ⟨k + 1, by omega, by go_num, hm.bel, hm.out.of_eq Hs.out, hm.has, hm.len, hm.xo⟩
              case measure => simp [intOf] <;> omega
          · obtain rfl : n = k := by omega
            go_wp2
            go_ret
            exact ⟨⟨bo, rfl, hm.xo, hm.out.of_eq Hfin.out⟩, hm.bel⟩
  · obtain ⟨bo, hbo⟩ : ∃ b : Nat, b = w.heap.size + 1 := ⟨_, rfl⟩
    obtain ⟨bh, hbh⟩ : ∃ b : Nat, b = w.heap.size := ⟨_, rfl⟩
    have hbel : Below w.heap.size w ((w.alloc (.cells (madeCells #[.bool false] n) 4)).alloc (.cells (madeCells #[.int .i64 0] n) 3)).drew := (((Below.refl _ _).alloc (Nat.le_refl _) _).alloc (by simp) _).drew
    have hf : RFl w B g bl cl bf cf bw cw s n bo bh (floorsTo s.ws (n + 1) 0) ((w.alloc (.cells (madeCells #[.bool false] n) 4)).alloc (.cells (madeCells #[.int .i64 0] n) 3)).drew :=
      ⟨hbel, h.below hbel (Nat.le_refl _), ((Arr.of_blk (Blk.new_at (by simp; omega)) (by rw [made_rep])).drewN 1).of_eq Hz0.out.symm, (((Arr.of_blk (Blk.new_at hbh) (by rw [made_rep])).alloc _).drewN 1).of_eq Hz1.out.symm, Hlen.out, by omega, by omega⟩
    simp only [← hbo]
    simp only [← hbh]
    clear hmi hmb hbo hbh hbel hcS
    go_wp2
    go_loopw [5] (fun i wr => ∃ t : Nat, t ≤ n ∧ i = .int .i64 t ∧ RFl w B g bl cl bf cf bw cw s n bo bh (floorsTo s.ws (n + 1) t) wr) (fun i _ => n - (intOf i).toNat)
    case atStart => exact ⟨0, by omega, rfl, hf⟩
    case round =>
      clear hf
      obtain ⟨t, ht, rfl, hf⟩ := hrel
      by_cases hlt : t < n
      · have hcS2 := hf.st.st.cell
        have Hz := Lib.hid (floorsTo_w (ws := s.ws) (m := n + 1) (t := t))
        obtain ⟨w0, w1, w2, w3, w4⟩ := rwsAt hf.st hlt
        clear w0 w3
        obtain ⟨z, hz⟩ : ∃ z, z = (s.ws.getD t none).getD wtZ := ⟨_, rfl⟩
        rw [← hz] at Hz w1 w2 w4
        clear hz
        obtain ⟨zc, zw, zs, zl⟩ := z
        simp only at w1 w2 w4
        cases zs with
        | true =>
          have Hz2 : Hid (floorsTo s.ws (n + 1) (t + 1) = chainF s.ws zl (n + 1) zc (floorsTo s.ws (n + 1) t)) := by have := Hz.out; simp only [if_true] at this; exact this
          go_wp2
          go_quiet (fail)
          go_wp2
          have hfq := hf.drewN nq
          generalize wr.drewN nq = wo at hfq ⊢
          clear hcS2 Hz w1 w2 w4 hf
          obtain ⟨T, hT⟩ : ∃ T, T = floorsTo s.ws (n + 1) (t + 1) := ⟨_, rfl⟩
          have HT := Lib.hid hT
          rw [← hT] at Hz2
          clear hT
          go_loopw [7, 8] (fun xv jv wi => ∃ (j : Nat) (x : Int) (F : List (Option Int)), j ≤ n + 1 ∧ jv = .int .i64 j ∧ xv = .int .i64 x ∧ RFl w B g bl cl bf cf bw cw s n bo bh F wi ∧ Hid (T = chainF s.ws zl (n + 1 - j) x F)) (fun _ jv _ => n + 1 - (intOf jv).toNat)
          case atStart => exact ⟨0, _, _, by omega, rfl, rfl, hfq, Hz2⟩
          case round =>
            clear hfq Hz2
            obtain ⟨j, x, F, hj, rfl, rfl, hf, Hc⟩ := hrel
            have hwl := hf.st.wf.ws
            by_cases hjn : (j : Int) ≤ (n : Int)
            · by_cases hx0 : x < 0
              · have Hd : Hid (T = F) := by rw [Hid, Hc.out]; exact chainF_out _ _ _ _ _ (.inl hx0)
                go_wp2
                go_roundw
                case rel => exact ⟨t + 1, by omega, by go_num, by rw [← HT.out, Hd.out]; exact hf⟩
                case measure => simp [intOf] <;> omega
              by_cases hxn : (n : Int) ≤ x
              · have Hd : Hid (T = F) := by rw [Hid, Hc.out]; exact chainF_out _ _ _ _ _ (.inr (by omega))
                go_wp2
                go_roundw
                case rel => exact ⟨t + 1, by omega, by go_num, by rw [← HT.out, Hd.out]; exact hf⟩
                case measure => simp [intOf] <;> omega
              have Hst := Lib.hid (chainF_w (ws := s.ws) (p := zl) (m := n - j) (x := x) (F := F) (by omega) (by omega))
              have Hc2 : Hid (T = chainF s.ws zl (n - j + 1) x F) := by rw [Hid, Hc.out]; congr 1; omega
              obtain ⟨w0, w1, w2, w3, w4⟩ := rwsAt hf.st (i := x.toNat) (by omega)
              clear w0 w3 w4
              obtain ⟨y, hy⟩ : ∃ y, y = (s.ws.getD x.toNat none).getD wtZ := ⟨_, rfl⟩
              rw [← hy] at Hst w1 w2
              clear hy
              obtain ⟨yc, yw, ys, yl⟩ := y
              simp only at w1 w2
              have ho := hf.outAt (i := x.toNat) (by omega)
              have hh := hf.hasAt (i := x.toNat) (by omega)
              have hlo := hf.out.lt
              have hlh := hf.has.lt
              have hfo := hf.out.frozen
              have hfh := hf.has.frozen
              have hoh := arr_ne hf.out hf.has (by decide)
              have hlw := hf.st.ws.lt
              have hcS2 := hf.st.st.cell
              have hgo := Ne.symm (arr_blk_ne hf.out hf.st.st (by decide))
              have hgh := Ne.symm (arr_blk_ne hf.has hf.st.st (by decide))
              have hwo := arr_ne hf.st.ws hf.out (by decide)
              have hwh := arr_ne hf.st.ws hf.has (by decide)
              cases hF : F.getD x.toNat none with
              | none =>
                have Hup : Hid (upF F x.toNat zl = F.set x.toNat (some zl)) := by rw [Hid]; unfold upF; rw [hF]
                rw [hF] at ho hh
                simp only [Option.isSome_none, Option.getD_none] at ho hh
                clear hF
                cases ys with
                | true =>
                  have Hn : Hid (T = chainF s.ws zl (n + 1 - (j + 1)) yc (F.set x.toNat (some zl))) := by have e1 := Hst.out; simp only [if_true] at e1; rw [Hup.out] at e1; rw [Hid, Hc2.out, e1]; congr 1; omega
                  go_wp2
                  go_roundw
                  case rel => exact ⟨j + 1, _, _, by omega, by go_num, rfl, hf.put h (i := x.toNat) (by omega) zl, Hn⟩
                  case measure => simp [intOf] <;> omega
                | false =>
                  have Hn : Hid (T = (F.set x.toNat (some zl))) := by have e1 := Hst.out; simp only [Bool.false_eq_true, if_false] at e1; rw [Hup.out] at e1; rw [Hid, Hc2.out, e1]
                  go_wp2
                  go_roundw
                  case rel => exact ⟨t + 1, by omega, by go_num, by rw [← HT.out, Hn.out]; exact hf.put h (i := x.toNat) (by omega) zl⟩
                  case measure => simp [intOf] <;> omega
              | some v =>
                rw [hF] at ho hh
                simp only [Option.isSome_some, Option.getD_some] at ho hh
                by_cases hv : v < zl
                · have Hup : Hid (upF F x.toNat zl = F.set x.toNat (some zl)) := by rw [Hid]; unfold upF; rw [hF]; simp only; rw [if_pos hv]
                  clear hF
                  cases ys with
                  | true =>
                    have Hn : Hid (T = chainF s.ws zl (n + 1 - (j + 1)) yc (F.set x.toNat (some zl))) := by have e1 := Hst.out; simp only [if_true] at e1; rw [Hup.out] at e1; rw [Hid, Hc2.out, e1]; congr 1; omega
                    go_wp2
                    go_roundw
                    case rel => exact ⟨j + 1, _, _, by omega, by go_num, rfl, hf.put h (i := x.toNat) (by omega) zl, Hn⟩
                    case measure => simp [intOf] <;> omega
                  | false =>
                    have Hn : Hid (T = (F.set x.toNat (some zl))) := by have e1 := Hst.out; simp only [Bool.false_eq_true, if_false] at e1; rw [Hup.out] at e1; rw [Hid, Hc2.out, e1]
                    go_wp2
                    go_roundw
                    case rel => exact ⟨t + 1, by omega, by go_num, by rw [← HT.out, Hn.out]; exact hf.put h (i := x.toNat) (by omega) zl⟩
                    case measure => simp [intOf] <;> omega
                · have Hup : Hid (upF F x.toNat zl = F) := by rw [Hid]; unfold upF; rw [hF]; simp only; rw [if_neg hv]
                  clear hF
                  cases ys with
                  | true =>
                    have Hn : Hid (T = chainF s.ws zl (n + 1 - (j + 1)) yc F) := by have e1 := Hst.out; simp only [if_true] at e1; rw [Hup.out] at e1; rw [Hid, Hc2.out, e1]; congr 1; omega
                    go_wp2
                    go_roundw
                    case rel => exact ⟨j + 1, _, _, by omega, by go_num, rfl, hf, Hn⟩
                    case measure => simp [intOf] <;> omega
                  | false =>
                    have Hn : Hid (T = F) := by have e1 := Hst.out; simp only [Bool.false_eq_true, if_false] at e1; rw [Hup.out] at e1; rw [Hid, Hc2.out, e1]
                    go_wp2
                    go_roundw
                    case rel => exact ⟨t + 1, by omega, by go_num, by rw [← HT.out, Hn.out]; exact hf⟩
                    case measure => simp [intOf] <;> omega
            · have e : n + 1 - j = 0 := by omega
              have Hd : Hid (T = F) := by rw [Hid, Hc.out, e]; rfl
              clear e
              go_wp2
              go_roundw
              case rel => exact ⟨t + 1, by omega, by go_num, by rw [← HT.out, Hd.out]; exact hf⟩
              case measure => simp [intOf] <;> omega
        | false =>
          have Hz2 : Hid (floorsTo s.ws (n + 1) (t + 1) = floorsTo s.ws (n + 1) t) := by have := Hz.out; rw [Hid]; simpa using this
          go_wp2
          go_roundw
          case rel => exact ⟨t + 1, by omega, by go_num, by rw [Hz2.out]; exact hf⟩
          case measure => simp [intOf] <;> omega
      · obtain rfl : n = t := by omega
        have hlF := hf.len
        have hm : MixSt w n bo bh 0 (floorsTo s.ws (n + 1) n) wr := ⟨hf.bel, hf.out.of_eq (mix0 _), hf.has, hf.len, hf.xo⟩
        have Hfin : Hid (mixV (floorsTo s.ws (n + 1) n) n = (floorsOut s).map (Value.int .i64)) := by
          rw [Hid]
          have e1 := floorsTo_more s.ws n
          rw [h.wf.ws] at e1
          have e2 := mixN (floorsTo s.ws (n + 1) n)
          rw [hlF] at e2
          rw [e2, e1]
          unfold floorsOut floorsI
          rw [h.wf.ws]
          simp [List.map_map, Function.comp_def]
        obtain ⟨F, hF⟩ : ∃ F, F = floorsTo s.ws (n + 1) n := ⟨_, rfl⟩
        rw [← hF] at hm Hfin hlF
        clear hF hf
        go_wp2
        go_loopw [9] (fun i wi => ∃ k : Nat, k ≤ n ∧ i = .int .i64 k ∧ MixSt w n bo bh k F wi) (fun i _ => n - (intOf i).toNat)
        case atStart => exact ⟨0, by omega, rfl, hm⟩
        case round =>
          clear hm
          obtain ⟨k, hk, rfl, hm⟩ := hrel
          by_cases hlt2 : k < n
          · have hlo := hm.out.lt
            have hfo := hm.out.frozen
            have hho := arr_ne hm.has hm.out (by decide)
            have c0 : wr.cell? ⟨bo, k, none⟩ = some (.int .i64 ((F.getD k none).getD 0)) := hm.out.cell (by simp [mixV, List.getD, show k < F.length from by omega])
            have c1 : wr.cell? ⟨bh, k, none⟩ = some (.bool (F.getD k none).isSome) := hm.has.cell (by simp [hasV, List.getD, show k < F.length from by omega])
            cases hF : F.getD k none with
            | none =>
              rw [hF] at c0 c1
              simp only [Option.isSome_none, Option.getD_none] at c0 c1
              have Hs := Lib.hid (mix_set hF)
              have hlen : k < (mixV F k).length := by simp [mixV]; omega
              clear hF hlF
              go_wp2
              go_roundw
              case rel => exact ⟨k + 1, by omega, by go_num, hm.bel.setCell hm.xo _, (hm.out.set_ k hlen _).of_eq Hs.out, hm.has.far hho _, hm.len, hm.xo⟩
              case measure => simp [intOf] <;> omega
            | some v =>
              rw [hF] at c0 c1
              simp only [Option.isSome_some, Option.getD_some] at c0 c1
              have Hs := Lib.hid (mix_keep hF)
              clear hF hlF
              go_wp2
              go_roundw
              case rel => exact ⟨k + 1, by omega, by go_num, hm.bel, hm.out.of_eq Hs.out, hm.has, hm.len, hm.xo⟩
              case measure => simp [intOf] <;> omega
          · obtain rfl : n = k := by omega
            go_wp2
            go_ret
            exact ⟨⟨bo, rfl, hm.xo, hm.out.of_eq Hfin.out⟩, hm.bel⟩
end Go.Proofs.YtpbkelpokpglaaaGreat
