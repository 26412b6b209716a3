/- Walks: the floors of the tasks, and whether the levels are as they must be (layer 30, the program). -/
import Derived.Test.YtpbkelpokpglaaaGreatInh3
set_option linter.all false
namespace Go.Proofs.YtpbkelpokpglaaaGreat
open Go.RowKit Go.Maps
theorem makeIntz (n : Nat) (h1 : n ≤ 1048576) (w : World) : (Instr.makeSlice 23 (.int .i64 (n : Int)) (.int .i64 (n : Int))).run Tryz.prog w = .ok (.slice (some ⟨w.heap.size, 0, none⟩) n n) (w.alloc (.cells (madeCells #[.int .i64 0] n) 3)) := by
  obtain ⟨i0, hi, hz0, hz1, hz2⟩ := info_parts intInfo1
  have := run_make (P := Tryz.prog) w 23 3 i0 (.int .i64 0) Tryz.underlying23 hi hz0 .i64 .i64 n n (by omega) (by omega) (by rw [hz2]; omega) (by omega)
  rw [hz1, Nat.mul_one, Int.toNat_natCast] at this
  exact this
theorem makeBoolz (n : Nat) (h1 : n ≤ 1048576) (w : World) : (Instr.makeSlice 133 (.int .i64 (n : Int)) (.int .i64 (n : Int))).run Tryz.prog w = .ok (.slice (some ⟨w.heap.size, 0, none⟩) n n) (w.alloc (.cells (madeCells #[.bool false] n) 4)) := by
  have := makeBools n (by omega) (by omega) w
  rw [Int.toNat_natCast] at this
  exact this
theorem chainF_z {ws : List (Option Wt)} {p : Int} {m : Nat} {x : Int} {F : List (Option Int)} (h0 : 0 ≤ x) (h1 : x < ws.length) :
    chainF ws p (m + 1) x F = if ((wsF ws x).getD wtZ).settled then chainF ws p m ((wsF ws x).getD wtZ).child (upF F x.toNat p) else upF F x.toNat p := by
  rw [chainF_step ws p m x F h0 h1]
  have e : wsF ws x = ws.getD x.toNat none := by unfold wsF; rw [if_neg (by omega)]
  rw [e]
  unfold nextW
  cases ws.getD x.toNat none with
  | none => rfl
  | some y => cases hy : y.settled <;> simp [hy]
theorem floorsTo_z {ws : List (Option Wt)} {m t : Nat} : floorsTo ws m (t + 1) = if ((wsF ws (t : Int)).getD wtZ).settled then chainF ws ((wsF ws (t : Int)).getD wtZ).level m ((wsF ws (t : Int)).getD wtZ).child (floorsTo ws m t) else floorsTo ws m t := by
  conv => lhs; unfold floorsTo
  have e : wsF ws (t : Int) = ws.getD t none := by unfold wsF; rw [if_neg (by omega), Int.toNat_natCast]
  rw [e]
  cases ws.getD t none with
  | none => rfl
  | some y => cases hy : y.settled <;> simp [hy]
def outV (F : List (Option Int)) : List Value := F.map fun o => .int .i64 (o.getD (-1))
def hasV (F : List (Option Int)) : List Value := F.map fun o => .bool o.isSome
/-- The floors F in memory (blocks bo and bh), beside a state. -/
structure FlSt (w : World) (B g bl cl bf bm : Nat) (s : Inh) (n nm bo bh : Nat) (F : List (Option Int)) (wr : World) : Prop where
  bel : Below w.heap.size w wr
  st : PInh B wr g bl cl bf bm s n nm
  out : Arr wr bo 3 (outV F)
  has : Arr wr bh 4 (hasV F)
  len : F.length = n
  xo : w.heap.size ≤ bo
  xh : w.heap.size ≤ bh
section
variable {w wr : World} {B g bl cl bf bm : Nat} {s : Inh} {n nm bo bh : Nat} {F : List (Option Int)}
theorem FlSt.alloc (h : FlSt w B g bl cl bf bm s n nm bo bh F wr) (o : Obj) : FlSt w B g bl cl bf bm s n nm bo bh F (wr.alloc o) := ⟨h.bel.alloc h.bel.size o, h.st.alloc o, h.out.alloc o, h.has.alloc o, h.len, h.xo, h.xh⟩
theorem FlSt.drewN (h : FlSt w B g bl cl bf bm s n nm bo bh F wr) (k : Nat) : FlSt w B g bl cl bf bm s n nm bo bh F (wr.drewN k) := ⟨below_drewN h.bel k, h.st.drewN k, h.out.drewN k, h.has.drewN k, h.len, h.xo, h.xh⟩
theorem FlSt.outAt (h : FlSt w B g bl cl bf bm s n nm bo bh F wr) {i : Nat} (hi : i < n) : wr.cell? ⟨bo, i, none⟩ = some (.int .i64 ((F.getD i none).getD (-1))) := by
  have hl := h.len
  exact h.out.cell (by simp [outV, List.getD, show i < F.length from by omega])
theorem FlSt.hasAt (h : FlSt w B g bl cl bf bm s n nm bo bh F wr) {i : Nat} (hi : i < n) : wr.cell? ⟨bh, i, none⟩ = some (.bool (F.getD i none).isSome) := by
  have hl := h.len
  exact h.has.cell (by simp [hasV, List.getD, show i < F.length from by omega])
/-- A state below the blocks of the call's own. -/
theorem FlSt.low (hs : PInh B w g bl cl bf bm s n nm) (u : World) (hb : Below w.heap.size w u) : PInh B u g bl cl bf bm s n nm := hs.below hb (Nat.le_refl _)
theorem FlSt.put (h : FlSt w B g bl cl bf bm s n nm bo bh F wr) (hs : PInh B w g bl cl bf bm s n nm) {i : Nat} (hi : i < n) (p : Int) :
    FlSt w B g bl cl bf bm s n nm bo bh (F.set i (some p)) ((wr.setCell ⟨bo, i, none⟩ (.int .i64 p)).setCell ⟨bh, i, none⟩ (.bool true)) := by
  have hl := h.len
  have hb := (h.bel.setCell (p := ⟨bo, i, none⟩) h.xo (.int .i64 p)).setCell (p := ⟨bh, i, none⟩) h.xh (.bool true)
  have e1 := (h.out.set_ i (by simp [outV]; omega) (.int .i64 p)).of_eq (vs' := outV (F.set i (some p))) (by simp [outV, List.map_set])
  have e2 := h.has.far (p := ⟨bo, i, none⟩) (arr_ne h.has h.out (by decide)) (.int .i64 p)
  have e3 := (e2.set_ i (by simp [hasV]; omega) (.bool true)).of_eq (vs' := hasV (F.set i (some p))) (by simp [hasV, List.map_set])
  exact ⟨hb, hs.below hb (Nat.le_refl _), e1.far (p := ⟨bh, i, none⟩) (arr_ne e1 e2 (by decide)) _, e3, by simpa using h.len, h.xo, h.xh⟩
end
/-- The first loop: -1 in the first k places. -/
structure FillSt (w : World) (n bo bh k : Nat) (wr : World) : Prop where
  bel : Below w.heap.size w wr
  out : Arr wr bo 3 (List.replicate k (.int .i64 (-1)) ++ List.replicate (n - k) (.int .i64 0))
  has : Arr wr bh 4 (List.replicate n (.bool false))
  xo : w.heap.size ≤ bo
  xh : w.heap.size ≤ bh
theorem FillSt.next {w wr : World} {n bo bh k : Nat} (h : FillSt w n bo bh k wr) (hk : k < n) : FillSt w n bo bh (k + 1) (wr.setCell ⟨bo, k, none⟩ (.int .i64 (-1))) := by
  refine ⟨h.bel.setCell h.xo _, (h.out.set_ k (by simp; omega) _).of_eq ?_, h.has.far (arr_ne h.has h.out (by decide)) _, h.xo, h.xh⟩
  rw [List.set_append_right _ _ (by simp), List.length_replicate, Nat.sub_self, show n - k = (n - (k + 1)) + 1 from by omega, List.replicate_succ, List.set_cons_zero, List.replicate_succ', List.append_assoc]
  rfl
theorem FillSt.at_ {w wr : World} {n bo bh k : Nat} (h : FillSt w n bo bh k wr) (hk : k < n) : wr.cell? ⟨bo, k, none⟩ = some (.int .i64 0) := by
  refine h.out.cell ?_
  rw [List.getElem?_append_right (by simp), List.length_replicate, Nat.sub_self, List.getElem?_replicate, if_pos (by omega)]
theorem FillSt.done {w wr : World} {B g bl cl bf bm n nm bo bh : Nat} {s : Inh} (h : FillSt w n bo bh n wr) (hs : PInh B w g bl cl bf bm s n nm) (m : Nat) : FlSt w B g bl cl bf bm s n nm bo bh (floorsTo s.ws m 0) wr :=
  ⟨h.bel, hs.below h.bel (Nat.le_refl _), h.out.of_eq (by simp [floorsTo, outV, hs.wf.ws]), h.has.of_eq (by simp [floorsTo, hasV, hs.wf.ws]), by simp [floorsTo, hs.wf.ws], h.xo, h.xh⟩
def FlP (w : World) (s : Inh) (n : Nat) (e : Ending) (w' : World) : Prop := (∃ bo, e = .returned (.slice (some ⟨bo, 0, none⟩) n n) ∧ w.heap.size ≤ bo ∧ Arr w' bo 3 ((floorsOut s).map (Value.int .i64))) ∧ Below w.heap.size w w'
set_option maxRecDepth 100000 in
set_option maxHeartbeats 4000000 in
theorem floors_any {B : Nat} {w : World} {g bl cl bf bm : Nat} {s : Inh} {n nm : Nat} (h : PInh B w g bl cl bf bm s n nm) : Calls Tryz.prog 68 #[.pointer (some ⟨g, 0, none⟩)] w (FlP w s n) := by
  have hn1 := h.n1
  have hn2 := h.n2
  have hmi := fun W : World => makeIntz n (by omega) W
  have hmb := fun W : World => makeBoolz n (by omega) W
  have hcS := h.st.cell
  have hlg := h.st.lt
  go_enter Tryz.func68, Tryz.ntmps68
  go_wp2_with fail
  go_region
  · obtain ⟨bh, hbh⟩ : ∃ b : Nat, b = w.heap.size + 1 := ⟨_, rfl⟩
    obtain ⟨bo, hbo⟩ : ∃ b : Nat, b = w.heap.size := ⟨_, rfl⟩
    have hSt : FillSt w n bo bh 0 ((w.alloc (.cells (madeCells #[.int .i64 0] n) 3)).alloc (.cells (madeCells #[.bool false] n) 4)).drew :=
      ⟨(((Below.refl _ _).alloc (Nat.le_refl _) _).alloc (by simp) _).drew, ((Arr.of_blk (Blk.new_at hbo) (by rw [made_rep]; simp)).alloc _).drewN 1, (Arr.of_blk (Blk.new_at (by simp; omega)) (by rw [made_rep])).drewN 1, by omega, by omega⟩
    simp only [← hbh]
    simp only [← hbo]
    clear hmi hmb
    clear hbo hbh
    go_wp2
    go_loopw [24] (fun i wr => ∃ k : Nat, k ≤ n ∧ i = .int .i64 k ∧ FillSt w n bo bh k wr) (fun i _ => n - (intOf i).toNat)
    case atStart => exact ⟨0, by omega, rfl, hSt⟩
    case round =>
      clear hSt
      obtain ⟨k, hk, rfl, hs⟩ := hrel
      by_cases hlt : k < n
      · have hlo := hs.out.lt
        have hfo := hs.out.frozen
        have c0 := hs.at_ hlt
        go_wp2
        go_roundw
        case rel => exact ⟨k + 1, by omega, by go_num, hs.next hlt⟩
        case measure => simp [intOf] <;> omega
      · obtain rfl : n = k := by omega
        have hf := hs.done h n
        have hcS2 := hf.st.st.cell
        clear hs hcS
        go_wp2
        clear hcS2
        go_loopw [36] (fun i wr => ∃ t : Nat, t ≤ n ∧ i = .int .i64 t ∧ FlSt w B g bl cl bf bm s n nm bo bh (floorsTo s.ws n t) wr) (fun i _ => n - (intOf i).toNat)
        case atStart => exact ⟨0, by omega, rfl, hf⟩
        case round =>
          clear hf
          obtain ⟨t, ht, rfl, hf⟩ := hrel
          by_cases hlt : t < n
          · have hcS2 := hf.st.st.cell
            have Hz := Lib.hid (floorsTo_z (ws := s.ws) (m := n) (t := t))
            obtain ⟨z, hz⟩ : ∃ z, z = (wsF s.ws (t : Int)).getD wtZ := ⟨_, rfl⟩
            rw [← hz] at Hz
            have Hlk := Lib.hid hz.symm
            clear hz
            obtain ⟨zc, zw, zs, zl⟩ := z
            obtain ⟨b7, hb7⟩ : ∃ b : Nat, b = wr.heap.size := ⟨_, rfl⟩
            have hfa := hf.alloc (.cells #[.int .i64 zc, .int .i64 zw, .bool zs, .int .i64 zl] 169)
            have hB7 : Blk (wr.alloc (.cells #[.int .i64 zc, .int .i64 zw, .bool zs, .int .i64 zl] 169)) b7 169 #[.int .i64 zc, .int .i64 zw, .bool zs, .int .i64 zl] := Blk.new_at hb7
            have hx7 : w.heap.size ≤ b7 := by rw [hb7]; exact hf.bel.size
            have hcS3 := hfa.st.st.cell
            cases zs with
            | true =>
              have Hz2 : Hid (floorsTo s.ws n (t + 1) = chainF s.ws zl n zc (floorsTo s.ws n t)) := by have := Hz.out; simp only [if_true] at this; exact this
              go_wp2_with ((at_lookup; refine wpList_lookup_wt _ rfl _ _ rfl bm nm (wsF s.ws) rfl (by repeat' (first | with_reducible (first | exact hf.st.ws | refine WMap.drewN ?_ _) | (with_reducible refine WMap.setCell ?_ (by first | omega | (simp <;> omega)) _))) (t : Int) (by omega) (by omega) rfl ?_); rw [Hlk.out])
              simp only [← hb7]
              clear hcS2 hcS3 hb7 Hlk Hz
              obtain ⟨T, hT⟩ : ∃ T, T = floorsTo s.ws n (t + 1) := ⟨_, rfl⟩
              have HT := Lib.hid hT
              rw [← hT] at Hz2
              clear hT
              obtain ⟨wo, hwo⟩ : ∃ wo : World, wo = wr.alloc (.cells #[.int .i64 zc, .int .i64 zw, .bool true, .int .i64 zl] 169) := ⟨_, rfl⟩
              simp only [← hwo] at hfa hB7 ⊢
              clear hwo hf
              go_loopw [8, 55] (fun xv jv wi => ∃ (j : Nat) (x : Int) (F : List (Option Int)), j ≤ n ∧ jv = .int .i64 j ∧ xv = .int .i64 x ∧ FlSt w B g bl cl bf bm s n nm bo bh F wi ∧ Blk wi b7 169 #[.int .i64 zc, .int .i64 zw, .bool true, .int .i64 zl] ∧ Hid (T = chainF s.ws zl (n - j) x F)) (fun _ jv _ => n - (intOf jv).toNat)
              case atStart => exact ⟨0, _, _, by omega, rfl, rfl, hfa, hB7, Hz2⟩
              case round =>
                clear hfa hB7 Hz2
                obtain ⟨j, x, F, hj, rfl, rfl, hf, hB7, Hc⟩ := hrel
                have hwl := hf.st.wf.ws
                by_cases hjn : j < n
                · by_cases hx0 : x < 0
                  · have Hd : Hid (T = F) := by rw [Hid, Hc.out]; exact chainF_out _ _ _ _ _ (.inl hx0)
                    go_wp2
                    go_roundw
                    case rel => exact ⟨t + 1, by omega, by go_num, by rw [← HT.out, Hd.out]; exact hf⟩
                    case measure => simp [intOf] <;> omega
                  by_cases hxn : (n : Int) ≤ x
                  · have Hd : Hid (T = F) := by rw [Hid, Hc.out]; exact chainF_out _ _ _ _ _ (.inr (by omega))
                    go_wp2
                    go_roundw
                    case rel => exact ⟨t + 1, by omega, by go_num, by rw [← HT.out, Hd.out]; exact hf⟩
                    case measure => simp [intOf] <;> omega
                  have Hst := Lib.hid (chainF_z (ws := s.ws) (p := zl) (m := n - (j + 1)) (x := x) (F := F) (by omega) (by omega))
                  have Hc2 : Hid (T = chainF s.ws zl (n - (j + 1) + 1) x F) := by rw [Hid, Hc.out]; congr 1; omega
                  obtain ⟨y, hy⟩ : ∃ y, y = (wsF s.ws x).getD wtZ := ⟨_, rfl⟩
                  rw [← hy] at Hst
                  have Hlk := Lib.hid hy.symm
                  clear hy
                  have ho := hf.outAt (i := x.toNat) (by omega)
                  have hh := hf.hasAt (i := x.toNat) (by omega)
                  have hc7 := hB7.cell
                  have hl7 := hB7.lt
                  have hlo := hf.out.lt
                  have hlh := hf.has.lt
                  have hfo := hf.out.frozen
                  have hfh := hf.has.frozen
                  have hoh := arr_ne hf.out hf.has (by decide)
                  have hlm := hf.st.ws.lt
                  have hmo : bm ≠ bo := by obtain ⟨cs, hBo, _⟩ := hf.out; exact hf.st.ws.blk_ne hBo
                  have hmh : bm ≠ bh := by obtain ⟨cs, hBo, _⟩ := hf.has; exact hf.st.ws.blk_ne hBo
                  have hcS2 := hf.st.st.cell
                  have hgo := Ne.symm (arr_blk_ne hf.out hf.st.st (by decide))
                  have hgh := Ne.symm (arr_blk_ne hf.has hf.st.st (by decide))
                  have h7o := Ne.symm (arr_blk_ne hf.out hB7 (by decide))
                  have h7h := Ne.symm (arr_blk_ne hf.has hB7 (by decide))
                  cases hF : F.getD x.toNat none with
                  | none =>
                    have Hup : Hid (upF F x.toNat zl = F.set x.toNat (some zl)) := by rw [Hid]; unfold upF; rw [hF]
                    rw [hF] at ho hh
                    simp only [Option.isSome_none, Option.getD_none] at ho hh
                    clear hF
                    by_cases hys : y.settled = true
                    · have Hn : Hid (T = chainF s.ws zl (n - (j + 1)) y.child (F.set x.toNat (some zl))) := by have e1 := Hst.out; rw [if_pos hys, Hup.out] at e1; rw [Hid, Hc2.out, e1]
                      go_wp2
                      go_quiet (fail)
                      go_wp2_with ((at_lookup; refine wpList_lookup_wt _ rfl _ _ rfl bm nm (wsF s.ws) rfl (by repeat' (first | with_reducible (first | exact hf.st.ws | refine WMap.drewN ?_ _) | (with_reducible refine WMap.setCell ?_ (by first | omega | (simp <;> omega)) _))) x (by omega) (by omega) rfl ?_); rw [Hlk.out])
                      go_roundw
                      case rel => exact ⟨j + 1, _, _, by omega, by go_num, rfl, ((hf.drewN _).put h (i := x.toNat) (by omega) zl).alloc _, (((hB7.drewN _).far (p := ⟨bo, x.toNat, none⟩) h7o _).far (p := ⟨bh, x.toNat, none⟩) h7h _).alloc _, Hn⟩
                      case measure => simp [intOf] <;> omega
                    · have hys2 : y.settled = false := by simpa using hys
                      have Hn : Hid (T = (F.set x.toNat (some zl))) := by have e1 := Hst.out; rw [if_neg hys, Hup.out] at e1; rw [Hid, Hc2.out, e1]
                      clear hys
                      go_wp2
                      go_quiet (fail)
                      go_wp2_with ((at_lookup; refine wpList_lookup_wt _ rfl _ _ rfl bm nm (wsF s.ws) rfl (by repeat' (first | with_reducible (first | exact hf.st.ws | refine WMap.drewN ?_ _) | (with_reducible refine WMap.setCell ?_ (by first | omega | (simp <;> omega)) _))) x (by omega) (by omega) rfl ?_); rw [Hlk.out])
                      go_roundw
                      case rel => exact ⟨t + 1, by omega, by go_num, by rw [← HT.out, Hn.out]; exact ((hf.drewN _).put h (i := x.toNat) (by omega) zl).alloc _⟩
                      case measure => simp [intOf] <;> omega
                  | some v =>
                    rw [hF] at ho hh
                    simp only [Option.isSome_some, Option.getD_some] at ho hh
                    by_cases hv : v < zl
                    · have Hup : Hid (upF F x.toNat zl = F.set x.toNat (some zl)) := by rw [Hid]; unfold upF; rw [hF]; simp only; rw [if_pos hv]
                      clear hF
                      by_cases hys : y.settled = true
                      · have Hn : Hid (T = chainF s.ws zl (n - (j + 1)) y.child (F.set x.toNat (some zl))) := by have e1 := Hst.out; rw [if_pos hys, Hup.out] at e1; rw [Hid, Hc2.out, e1]
                        go_wp2
                        go_quiet (fail)
                        go_wp2_with ((at_lookup; refine wpList_lookup_wt _ rfl _ _ rfl bm nm (wsF s.ws) rfl (by repeat' (first | with_reducible (first | exact hf.st.ws | refine WMap.drewN ?_ _) | (with_reducible refine WMap.setCell ?_ (by first | omega | (simp <;> omega)) _))) x (by omega) (by omega) rfl ?_); rw [Hlk.out])
                        go_roundw
                        case rel => exact ⟨j + 1, _, _, by omega, by go_num, rfl, ((hf.drewN _).put h (i := x.toNat) (by omega) zl).alloc _, (((hB7.drewN _).far (p := ⟨bo, x.toNat, none⟩) h7o _).far (p := ⟨bh, x.toNat, none⟩) h7h _).alloc _, Hn⟩
                        case measure => simp [intOf] <;> omega
                      · have hys2 : y.settled = false := by simpa using hys
                        have Hn : Hid (T = (F.set x.toNat (some zl))) := by have e1 := Hst.out; rw [if_neg hys, Hup.out] at e1; rw [Hid, Hc2.out, e1]
                        clear hys
                        go_wp2
                        go_quiet (fail)
                        go_wp2_with ((at_lookup; refine wpList_lookup_wt _ rfl _ _ rfl bm nm (wsF s.ws) rfl (by repeat' (first | with_reducible (first | exact hf.st.ws | refine WMap.drewN ?_ _) | (with_reducible refine WMap.setCell ?_ (by first | omega | (simp <;> omega)) _))) x (by omega) (by omega) rfl ?_); rw [Hlk.out])
                        go_roundw
                        case rel => exact ⟨t + 1, by omega, by go_num, by rw [← HT.out, Hn.out]; exact ((hf.drewN _).put h (i := x.toNat) (by omega) zl).alloc _⟩
                        case measure => simp [intOf] <;> omega
                    · have Hup : Hid (upF F x.toNat zl = F) := by rw [Hid]; unfold upF; rw [hF]; simp only; rw [if_neg hv]
                      clear hF
                      by_cases hys : y.settled = true
                      · have Hn : Hid (T = chainF s.ws zl (n - (j + 1)) y.child F) := by have e1 := Hst.out; rw [if_pos hys, Hup.out] at e1; rw [Hid, Hc2.out, e1]
                        go_wp2
                        go_quiet (fail)
                        have hfq := hf.drewN nq
                        have hBq := hB7.drewN nq
                        generalize wr.drewN nq = wq at hfq hBq ⊢
                        have hcSq := hfq.st.st.cell
                        have hlgq := hfq.st.st.lt
                        go_wp2_with ((at_lookup; refine wpList_lookup_wt _ rfl _ _ rfl bm nm (wsF s.ws) rfl (by repeat' (first | with_reducible (first | exact hfq.st.ws | refine WMap.drewN ?_ _) | (with_reducible refine WMap.setCell ?_ (by first | omega | (simp <;> omega)) _))) x (by omega) (by omega) rfl ?_); rw [Hlk.out])
                        go_roundw
                        case rel => exact ⟨j + 1, _, _, by omega, by go_num, rfl, hfq.alloc _, hBq.alloc _, Hn⟩
                        case measure => simp [intOf] <;> omega
                      · have hys2 : y.settled = false := by simpa using hys
                        have Hn : Hid (T = F) := by have e1 := Hst.out; rw [if_neg hys, Hup.out] at e1; rw [Hid, Hc2.out, e1]
                        clear hys
                        go_wp2
                        go_quiet (fail)
                        have hfq := hf.drewN nq
                        have hBq := hB7.drewN nq
                        generalize wr.drewN nq = wq at hfq hBq ⊢
                        have hcSq := hfq.st.st.cell
                        have hlgq := hfq.st.st.lt
                        go_wp2_with ((at_lookup; refine wpList_lookup_wt _ rfl _ _ rfl bm nm (wsF s.ws) rfl (by repeat' (first | with_reducible (first | exact hfq.st.ws | refine WMap.drewN ?_ _) | (with_reducible refine WMap.setCell ?_ (by first | omega | (simp <;> omega)) _))) x (by omega) (by omega) rfl ?_); rw [Hlk.out])
                        go_roundw
                        case rel => exact ⟨t + 1, by omega, by go_num, by rw [← HT.out, Hn.out]; exact hfq.alloc _⟩
                        case measure => simp [intOf] <;> omega
                · obtain rfl : n = j := by omega
                  have Hd : Hid (T = F) := by rw [Hid, Hc.out, Nat.sub_self]; rfl
                  go_wp2
                  go_roundw
                  case rel => exact ⟨t + 1, by omega, by go_num, by rw [← HT.out, Hd.out]; exact hf⟩
                  case measure => simp [intOf] <;> omega
            | false =>
              have Hz2 : Hid (floorsTo s.ws n (t + 1) = floorsTo s.ws n t) := by have := Hz.out; rw [Hid]; simpa using this
              go_wp2_with ((at_lookup; refine wpList_lookup_wt _ rfl _ _ rfl bm nm (wsF s.ws) rfl (by repeat' (first | with_reducible (first | exact hf.st.ws | refine WMap.drewN ?_ _) | (with_reducible refine WMap.setCell ?_ (by first | omega | (simp <;> omega)) _))) (t : Int) (by omega) (by omega) rfl ?_); rw [Hlk.out])
              go_roundw
              case rel => exact ⟨t + 1, by omega, by go_num, by rw [Hz2.out]; exact hfa⟩
              case measure => simp [intOf] <;> omega
          · obtain rfl : n = t := by omega
            have Hfin : Hid (outV (floorsTo s.ws n n) = (floorsOut s).map (Value.int .i64)) := by
              rw [Hid]; unfold outV floorsOut floorsI; rw [h.wf.ws]; simp [List.map_map, Function.comp_def]
            go_wp2
            go_ret
            exact ⟨⟨bo, rfl, hf.xo, hf.out.of_eq Hfin.out⟩, hf.bel⟩
  · obtain ⟨bo, hbo⟩ : ∃ b : Nat, b = w.heap.size + 1 := ⟨_, rfl⟩
    obtain ⟨bh, hbh⟩ : ∃ b : Nat, b = w.heap.size := ⟨_, rfl⟩
    have hSt : FillSt w n bo bh 0 ((w.alloc (.cells (madeCells #[.bool false] n) 4)).alloc (.cells (madeCells #[.int .i64 0] n) 3)).drew :=
      ⟨(((Below.refl _ _).alloc (Nat.le_refl _) _).alloc (by simp) _).drew, (Arr.of_blk (Blk.new_at (by simp; omega)) (by rw [made_rep]; simp)).drewN 1, ((Arr.of_blk (Blk.new_at hbh) (by rw [made_rep])).alloc _).drewN 1, by omega, by omega⟩
    simp only [← hbo]
    simp only [← hbh]
    clear hmi hmb
    clear hbo hbh
    go_wp2
    go_loopw [24] (fun i wr => ∃ k : Nat, k ≤ n ∧ i = .int .i64 k ∧ FillSt w n bo bh k wr) (fun i _ => n - (intOf i).toNat)
    case atStart => exact ⟨0, by omega, rfl, hSt⟩
    case round =>
      clear hSt
      obtain ⟨k, hk, rfl, hs⟩ := hrel
      by_cases hlt : k < n
      · have hlo := hs.out.lt
        have hfo := hs.out.frozen
        have c0 := hs.at_ hlt
        go_wp2
        go_roundw
        case rel => exact ⟨k + 1, by omega, by go_num, hs.next hlt⟩
        case measure => simp [intOf] <;> omega
      · obtain rfl : n = k := by omega
        have hf := hs.done h n
        have hcS2 := hf.st.st.cell
        clear hs hcS
        go_wp2
        clear hcS2
        go_loopw [36] (fun i wr => ∃ t : Nat, t ≤ n ∧ i = .int .i64 t ∧ FlSt w B g bl cl bf bm s n nm bo bh (floorsTo s.ws n t) wr) (fun i _ => n - (intOf i).toNat)
        case atStart => exact ⟨0, by omega, rfl, hf⟩
        case round =>
          clear hf
          obtain ⟨t, ht, rfl, hf⟩ := hrel
          by_cases hlt : t < n
          · have hcS2 := hf.st.st.cell
            have Hz := Lib.hid (floorsTo_z (ws := s.ws) (m := n) (t := t))
            obtain ⟨z, hz⟩ : ∃ z, z = (wsF s.ws (t : Int)).getD wtZ := ⟨_, rfl⟩
            rw [← hz] at Hz
            have Hlk := Lib.hid hz.symm
            clear hz
            obtain ⟨zc, zw, zs, zl⟩ := z
            obtain ⟨b7, hb7⟩ : ∃ b : Nat, b = wr.heap.size := ⟨_, rfl⟩
            have hfa := hf.alloc (.cells #[.int .i64 zc, .int .i64 zw, .bool zs, .int .i64 zl] 169)
            have hB7 : Blk (wr.alloc (.cells #[.int .i64 zc, .int .i64 zw, .bool zs, .int .i64 zl] 169)) b7 169 #[.int .i64 zc, .int .i64 zw, .bool zs, .int .i64 zl] := Blk.new_at hb7
            have hx7 : w.heap.size ≤ b7 := by rw [hb7]; exact hf.bel.size
            have hcS3 := hfa.st.st.cell
            cases zs with
            | true =>
              have Hz2 : Hid (floorsTo s.ws n (t + 1) = chainF s.ws zl n zc (floorsTo s.ws n t)) := by have := Hz.out; simp only [if_true] at this; exact this
              go_wp2_with ((at_lookup; refine wpList_lookup_wt _ rfl _ _ rfl bm nm (wsF s.ws) rfl (by repeat' (first | with_reducible (first | exact hf.st.ws | refine WMap.drewN ?_ _) | (with_reducible refine WMap.setCell ?_ (by first | omega | (simp <;> omega)) _))) (t : Int) (by omega) (by omega) rfl ?_); rw [Hlk.out])
              simp only [← hb7]
              clear hcS2 hcS3 hb7 Hlk Hz
              obtain ⟨T, hT⟩ : ∃ T, T = floorsTo s.ws n (t + 1) := ⟨_, rfl⟩
              have HT := Lib.hid hT
              rw [← hT] at Hz2
              clear hT
              obtain ⟨wo, hwo⟩ : ∃ wo : World, wo = wr.alloc (.cells #[.int .i64 zc, .int .i64 zw, .bool true, .int .i64 zl] 169) := ⟨_, rfl⟩
              simp only [← hwo] at hfa hB7 ⊢
              clear hwo hf
              go_loopw [8, 55] (fun xv jv wi => ∃ (j : Nat) (x : Int) (F : List (Option Int)), j ≤ n ∧ jv = .int .i64 j ∧ xv = .int .i64 x ∧ FlSt w B g bl cl bf bm s n nm bo bh F wi ∧ Blk wi b7 169 #[.int .i64 zc, .int .i64 zw, .bool true, .int .i64 zl] ∧ Hid (T = chainF s.ws zl (n - j) x F)) (fun _ jv _ => n - (intOf jv).toNat)
              case atStart => exact ⟨0, _, _, by omega, rfl, rfl, hfa, hB7, Hz2⟩
              case round =>
                clear hfa hB7 Hz2
                obtain ⟨j, x, F, hj, rfl, rfl, hf, hB7, Hc⟩ := hrel
                have hwl := hf.st.wf.ws
                by_cases hjn : j < n
                · by_cases hx0 : x < 0
                  · have Hd : Hid (T = F) := by rw [Hid, Hc.out]; exact chainF_out _ _ _ _ _ (.inl hx0)
                    go_wp2
                    go_roundw
                    case rel => exact ⟨t + 1, by omega, by go_num, by rw [← HT.out, Hd.out]; exact hf⟩
                    case measure => simp [intOf] <;> omega
                  by_cases hxn : (n : Int) ≤ x
                  · have Hd : Hid (T = F) := by rw [Hid, Hc.out]; exact chainF_out _ _ _ _ _ (.inr (by omega))
                    go_wp2
                    go_roundw
                    case rel => exact ⟨t + 1, by omega, by go_num, by rw [← HT.out, Hd.out]; exact hf⟩
                    case measure => simp [intOf] <;> omega
                  have Hst := Lib.hid (chainF_z (ws := s.ws) (p := zl) (m := n - (j + 1)) (x := x) (F := F) (by omega) (by omega))
                  have Hc2 : Hid (T = chainF s.ws zl (n - (j + 1) + 1) x F) := by rw [Hid, Hc.out]; congr 1; omega
                  obtain ⟨y, hy⟩ : ∃ y, y = (wsF s.ws x).getD wtZ := ⟨_, rfl⟩
                  rw [← hy] at Hst
                  have Hlk := Lib.hid hy.symm
                  clear hy
                  have ho := hf.outAt (i := x.toNat) (by omega)
                  have hh := hf.hasAt (i := x.toNat) (by omega)
                  have hc7 := hB7.cell
                  have hl7 := hB7.lt
                  have hlo := hf.out.lt
                  have hlh := hf.has.lt
                  have hfo := hf.out.frozen
                  have hfh := hf.has.frozen
                  have hoh := arr_ne hf.out hf.has (by decide)
                  have hlm := hf.st.ws.lt
                  have hmo : bm ≠ bo := by obtain ⟨cs, hBo, _⟩ := hf.out; exact hf.st.ws.blk_ne hBo
                  have hmh : bm ≠ bh := by obtain ⟨cs, hBo, _⟩ := hf.has; exact hf.st.ws.blk_ne hBo
                  have hcS2 := hf.st.st.cell
                  have hgo := Ne.symm (arr_blk_ne hf.out hf.st.st (by decide))
                  have hgh := Ne.symm (arr_blk_ne hf.has hf.st.st (by decide))
                  have h7o := Ne.symm (arr_blk_ne hf.out hB7 (by decide))
                  have h7h := Ne.symm (arr_blk_ne hf.has hB7 (by decide))
                  cases hF : F.getD x.toNat none with
                  | none =>
                    have Hup : Hid (upF F x.toNat zl = F.set x.toNat (some zl)) := by rw [Hid]; unfold upF; rw [hF]
                    rw [hF] at ho hh
                    simp only [Option.isSome_none, Option.getD_none] at ho hh
                    clear hF
                    by_cases hys : y.settled = true
                    · have Hn : Hid (T = chainF s.ws zl (n - (j + 1)) y.child (F.set x.toNat (some zl))) := by have e1 := Hst.out; rw [if_pos hys, Hup.out] at e1; rw [Hid, Hc2.out, e1]
                      go_wp2
                      go_quiet (fail)
                      go_wp2_with ((at_lookup; refine wpList_lookup_wt _ rfl _ _ rfl bm nm (wsF s.ws) rfl (by repeat' (first | with_reducible (first | exact hf.st.ws | refine WMap.drewN ?_ _) | (with_reducible refine WMap.setCell ?_ (by first | omega | (simp <;> omega)) _))) x (by omega) (by omega) rfl ?_); rw [Hlk.out])
                      go_roundw
                      case rel => exact ⟨j + 1, _, _, by omega, by go_num, rfl, ((hf.drewN _).put h (i := x.toNat) (by omega) zl).alloc _, (((hB7.drewN _).far (p := ⟨bo, x.toNat, none⟩) h7o _).far (p := ⟨bh, x.toNat, none⟩) h7h _).alloc _, Hn⟩
                      case measure => simp [intOf] <;> omega
                    · have hys2 : y.settled = false := by simpa using hys
                      have Hn : Hid (T = (F.set x.toNat (some zl))) := by have e1 := Hst.out; rw [if_neg hys, Hup.out] at e1; rw [Hid, Hc2.out, e1]
                      clear hys
                      go_wp2
                      go_quiet (fail)
                      go_wp2_with ((at_lookup; refine wpList_lookup_wt _ rfl _ _ rfl bm nm (wsF s.ws) rfl (by repeat' (first | with_reducible (first | exact hf.st.ws | refine WMap.drewN ?_ _) | (with_reducible refine WMap.setCell ?_ (by first | omega | (simp <;> omega)) _))) x (by omega) (by omega) rfl ?_); rw [Hlk.out])
                      go_roundw
                      case rel => exact ⟨t + 1, by omega, by go_num, by rw [← HT.out, Hn.out]; exact ((hf.drewN _).put h (i := x.toNat) (by omega) zl).alloc _⟩
                      case measure => simp [intOf] <;> omega
                  | some v =>
                    rw [hF] at ho hh
                    simp only [Option.isSome_some, Option.getD_some] at ho hh
                    by_cases hv : v < zl
                    · have Hup : Hid (upF F x.toNat zl = F.set x.toNat (some zl)) := by rw [Hid]; unfold upF; rw [hF]; simp only; rw [if_pos hv]
                      clear hF
                      by_cases hys : y.settled = true
                      · have Hn : Hid (T = chainF s.ws zl (n - (j + 1)) y.child (F.set x.toNat (some zl))) := by have e1 := Hst.out; rw [if_pos hys, Hup.out] at e1; rw [Hid, Hc2.out, e1]
                        go_wp2
                        go_quiet (fail)
                        go_wp2_with ((at_lookup; refine wpList_lookup_wt _ rfl _ _ rfl bm nm (wsF s.ws) rfl (by repeat' (first | with_reducible (first | exact hf.st.ws | refine WMap.drewN ?_ _) | (with_reducible refine WMap.setCell ?_ (by first | omega | (simp <;> omega)) _))) x (by omega) (by omega) rfl ?_); rw [Hlk.out])
                        go_roundw
                        case rel => exact ⟨j + 1, _, _, by omega, by go_num, rfl, ((hf.drewN _).put h (i := x.toNat) (by omega) zl).alloc _, (((hB7.drewN _).far (p := ⟨bo, x.toNat, none⟩) h7o _).far (p := ⟨bh, x.toNat, none⟩) h7h _).alloc _, Hn⟩
                        case measure => simp [intOf] <;> omega
                      · have hys2 : y.settled = false := by simpa using hys
                        have Hn : Hid (T = (F.set x.toNat (some zl))) := by have e1 := Hst.out; rw [if_neg hys, Hup.out] at e1; rw [Hid, Hc2.out, e1]
                        clear hys
                        go_wp2
                        go_quiet (fail)
                        go_wp2_with ((at_lookup; refine wpList_lookup_wt _ rfl _ _ rfl bm nm (wsF s.ws) rfl (by repeat' (first | with_reducible (first | exact hf.st.ws | refine WMap.drewN ?_ _) | (with_reducible refine WMap.setCell ?_ (by first | omega | (simp <;> omega)) _))) x (by omega) (by omega) rfl ?_); rw [Hlk.out])
                        go_roundw
                        case rel => exact ⟨t + 1, by omega, by go_num, by rw [← HT.out, Hn.out]; exact ((hf.drewN _).put h (i := x.toNat) (by omega) zl).alloc _⟩
                        case measure => simp [intOf] <;> omega
                    · have Hup : Hid (upF F x.toNat zl = F) := by rw [Hid]; unfold upF; rw [hF]; simp only; rw [if_neg hv]
                      clear hF
                      by_cases hys : y.settled = true
                      · have Hn : Hid (T = chainF s.ws zl (n - (j + 1)) y.child F) := by have e1 := Hst.out; rw [if_pos hys, Hup.out] at e1; rw [Hid, Hc2.out, e1]
                        go_wp2
                        go_quiet (fail)
                        have hfq := hf.drewN nq
                        have hBq := hB7.drewN nq
                        generalize wr.drewN nq = wq at hfq hBq ⊢
                        have hcSq := hfq.st.st.cell
                        have hlgq := hfq.st.st.lt
                        go_wp2_with ((at_lookup; refine wpList_lookup_wt _ rfl _ _ rfl bm nm (wsF s.ws) rfl (by repeat' (first | with_reducible (first | exact hfq.st.ws | refine WMap.drewN ?_ _) | (with_reducible refine WMap.setCell ?_ (by first | omega | (simp <;> omega)) _))) x (by omega) (by omega) rfl ?_); rw [Hlk.out])
                        go_roundw
                        case rel => exact ⟨j + 1, _, _, by omega, by go_num, rfl, hfq.alloc _, hBq.alloc _, Hn⟩
                        case measure => simp [intOf] <;> omega
                      · have hys2 : y.settled = false := by simpa using hys
                        have Hn : Hid (T = F) := by have e1 := Hst.out; rw [if_neg hys, Hup.out] at e1; rw [Hid, Hc2.out, e1]
                        clear hys
                        go_wp2
                        go_quiet (fail)
                        have hfq := hf.drewN nq
                        have hBq := hB7.drewN nq
                        generalize wr.drewN nq = wq at hfq hBq ⊢
                        have hcSq := hfq.st.st.cell
                        have hlgq := hfq.st.st.lt
                        go_wp2_with ((at_lookup; refine wpList_lookup_wt _ rfl _ _ rfl bm nm (wsF s.ws) rfl (by repeat' (first | with_reducible (first | exact hfq.st.ws | refine WMap.drewN ?_ _) | (with_reducible refine WMap.setCell ?_ (by first | omega | (simp <;> omega)) _))) x (by omega) (by omega) rfl ?_); rw [Hlk.out])
                        go_roundw
                        case rel => exact ⟨t + 1, by omega, by go_num, by rw [← HT.out, Hn.out]; exact hfq.alloc _⟩
                        case measure => simp [intOf] <;> omega
                · obtain rfl : n = j := by omega
                  have Hd : Hid (T = F) := by rw [Hid, Hc.out, Nat.sub_self]; rfl
                  go_wp2
                  go_roundw
                  case rel => exact ⟨t + 1, by omega, by go_num, by rw [← HT.out, Hd.out]; exact hf⟩
                  case measure => simp [intOf] <;> omega
            | false =>
              have Hz2 : Hid (floorsTo s.ws n (t + 1) = floorsTo s.ws n t) := by have := Hz.out; rw [Hid]; simpa using this
              go_wp2_with ((at_lookup; refine wpList_lookup_wt _ rfl _ _ rfl bm nm (wsF s.ws) rfl (by repeat' (first | with_reducible (first | exact hf.st.ws | refine WMap.drewN ?_ _) | (with_reducible refine WMap.setCell ?_ (by first | omega | (simp <;> omega)) _))) (t : Int) (by omega) (by omega) rfl ?_); rw [Hlk.out])
              go_roundw
              case rel => exact ⟨t + 1, by omega, by go_num, by rw [Hz2.out]; exact hfa⟩
              case measure => simp [intOf] <;> omega
          · obtain rfl : n = t := by omega
            have Hfin : Hid (outV (floorsTo s.ws n n) = (floorsOut s).map (Value.int .i64)) := by
              rw [Hid]; unfold outV floorsOut floorsI; rw [h.wf.ws]; simp [List.map_map, Function.comp_def]
            go_wp2
            go_ret
            exact ⟨⟨bo, rfl, hf.xo, hf.out.of_eq Hfin.out⟩, hf.bel⟩
end Go.Proofs.YtpbkelpokpglaaaGreat
