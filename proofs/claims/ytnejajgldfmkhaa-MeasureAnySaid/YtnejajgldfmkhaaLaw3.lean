/- Walk: law 35's MeasureAny. -/
import Derived.Test.YtnejajgldfmkhaaLaw2
namespace Go.Proofs.Ytnejajgldfmkhaa
open Go.RowKit

theorem grown_of_below {w w' : World} (h : Below w.heap.size w w') : w.grownBy w' none := ⟨h.os, h.tape, h.output, h.size, fun k hk _ => h.block k hk⟩
theorem stInfo : (Try.prog.info? 36).map (fun i => (i.zero, i.size, i.bytes)) = some (some (.agg #[.int .i64 0, .int .i64 0, .int .i64 0, .int .i64 0, .int .i64 0, .int .i64 0]), 6, 48) := by kernel_rfl
theorem row_below {w w' : World} {base : Nat} {e : TypeId} {size : Nat} {v : Value} {n : Nat} {xs : List Value} (h : w.ownsRow base e size v n xs) (hb : Below w.heap.size w w') : w'.ownsRow base e size v n xs :=
  h.kept (grown_of_below hb) (by cases hv : v.ownBlock <;> simp)

set_option maxRecDepth 100000 in
set_option maxHeartbeats 2000000 in
theorem measureAny_any (c : Cfg) (p : CfgAt) (A Ab Ar : Option Addr) (cap capb capr : Nat) (l : List St) (bs : List Nat) (xs : List Int) (w : World) (hc : CfgIn w w.heap.size c p) (hl : Sl St.enc 6 w w.heap.size A l) (hb : Sl encByte 1 w w.heap.size Ab bs) (hx : Sl encInt 1 w w.heap.size Ar xs) (hwl : StWf l) (hwb : BytesWf bs) (hwx : IntsWf xs) :
    Calls Try.prog 3 #[cfgV c p, .slice A l.length cap, .slice Ab bs.length capb, .slice Ar xs.length capr] w fun e w' => e = .returned (.bool true) ∧ Below w.heap.size w w' := by
  have hB0 : Below w.heap.size w (w.alloc (cfgBox c p)) := (Below.refl _ _).alloc (Nat.le_refl _) _
  have hK0 : Blk (w.alloc (cfgBox c p)) w.heap.size 25 (cfgC c.workers c.levels c.classes c.tasks c.deque c.heap c.batch c.age c.patience (.slice p.pa c.progs.length p.pc) (.slice p.sa c.subs.length p.sc)) := Blk.new _ _ _
  have hll := hl.len
  have hlb := hb.len
  have hlx := hx.len
  unfold cfgV
  go_enter Try.func3, Try.ntmps3
  go_wp2_with fail
  refine (small_any c p _ (hc.up hB0)).mono ?_; rintro e w1 ⟨rfl, hb1⟩
  have hB1 := below_next hB0 hb1
  have hK1 := hK0.below hb1 hK0.lt
  clear hb1 hB0 hK0
  by_cases t1 : smallB c = false
  · go_wp2
    go_ret
    exact ⟨rfl, hB1⟩
  have t1' : smallB c = true := by simpa using t1
  clear t1
  by_cases t2 : 200 < l.length
  · go_wp2
    go_ret
    exact ⟨rfl, hB1⟩
  go_wp2_with fail
  have hE : Below w1.heap.size w1 (w1.alloc (.cells #[.slice Ar xs.length capr] 28)) := (Below.refl _ _).alloc (Nat.le_refl _) _
  refine (short_any Ab _ bs.length capb 1 [(Ar, xs.length, capr)] _ (sl_blk (enc := encSl) (sz := 1) (xs := [(Ar, xs.length, capr)]) (fun _ => rfl) (Blk.new w1 28 #[.slice Ar xs.length capr]) rfl (by simp)) (by intro x h; simp at h; subst h; exact hlx) hlb).mono ?_; rintro e w2 ⟨rfl, rfl⟩
  have hB2 := below_next hB1 hE
  have hK2 := hK1.alloc (.cells #[.slice Ar xs.length capr] 28)
  clear hE hB1 hK1
  by_cases t3 : shortB bs.length [(Ar, xs.length, capr)] = false
  · go_wp2
    go_ret
    exact ⟨rfl, hB2⟩
  have t3' : shortB bs.length [(Ar, xs.length, capr)] = true := by simpa using t3
  have hx4 : xs.length ≤ 400 := by simp [shortB] at t3'; omega
  clear t3
  go_wp2_with fail
  refine (config_any Ab capb bs _ (hb.up hB2) hwb).mono ?_; rintro e w3 ⟨⟨q, rfl, hd⟩, hb3⟩
  obtain ⟨d, hdd⟩ : ∃ d, d = decode bs := ⟨_, rfl⟩
  rw [← hdd] at hd ⊢
  clear hdd
  have hK3 := hK2.below hb3 hK2.lt
  have hE : Below w3.heap.size w3 (w3.alloc (.cells (cfgC d.workers d.levels d.classes d.tasks d.deque d.heap d.batch d.age d.patience (.slice q.pa d.progs.length q.pc) (.slice q.sa d.subs.length q.sc)) 25)) := (Below.refl _ _).alloc (Nat.le_refl _) _
  have hB4 := below_next (below_next hB2 hb3) hE
  have hd4 := hd.up hE
  have hK4 := hK3.alloc (.cells (cfgC d.workers d.levels d.classes d.tasks d.deque d.heap d.batch d.age d.patience (.slice q.pa d.progs.length q.pc) (.slice q.sa d.subs.length q.sc)) 25)
  have hD4 := Blk.new w3 25 (cfgC d.workers d.levels d.classes d.tasks d.deque d.heap d.batch d.age d.patience (.slice q.pa d.progs.length q.pc) (.slice q.sa d.subs.length q.sc))
  clear hE hB2 hK2 hK3 hb3 hd
  unfold cfgV
  obtain ⟨i36, hi36, hz36, hs36, hb36⟩ := info_parts stInfo
  go_wp2_with fail
  obtain ⟨W, hW⟩ : ∃ W, W = w3.alloc (.cells (cfgC d.workers d.levels d.classes d.tasks d.deque d.heap d.batch d.age d.patience (.slice q.pa d.progs.length q.pc) (.slice q.sa d.subs.length q.sc)) 25) := ⟨_, rfl⟩
  obtain ⟨gd, hgd⟩ : ∃ g, g = w3.heap.size := ⟨_, rfl⟩
  simp only [← hW] at hB4 hd4 hK4 hD4 ⊢
  simp only [← hgd] at hD4 ⊢
  clear hW hgd
  go_loopw [10, 11, 12] (fun m a i wr => ∃ (k : Nat) (at_ : Int) (ms : List St), 2 * k ≤ xs.length ∧ a = .int .i64 at_ ∧ i = .int .i64 (2 * (k : Int)) ∧ -(5 * (k : Int)) ≤ at_ ∧ at_ ≤ 8 * (k : Int) ∧ Below W.heap.size W wr ∧ wr.ownsRow W.heap.size 36 6 m ms.length (ms.flatMap St.enc) ∧ StWf ms ∧ ms.length ≤ k) (fun _ _ i _ => xs.length - (intOf i).toNat)
  case atStart => exact ⟨0, 0, [], by omega, rfl, rfl, by omega, by omega, Below.refl _ _, World.ownsRow_nil _ _ _ _, fun k hk => absurd hk (by simp), by simp⟩
  case round =>
    obtain ⟨k, at_, ms, hk, rfl, rfl, ha1, ha2, hB, hrow, hwm, hml⟩ := hrel
    have hXW := hx.up hB4
    have hxr := hXW.up hB
    obtain ⟨Am, cm, hm⟩ := row_slice hrow
    subst hm
    by_cases hlt : 2 * k + 1 < xs.length
    · go_wp2_with fail
      refine (number_any _ capr xs _ _ _ hxr hwx (by omega) (by omega) (by omega)).mono ?_; rintro e wa ⟨rfl, hbn⟩
      obtain ⟨n1, hn1⟩ : ∃ n, n = numAt xs (2 * (k : Int)).toNat 9 := ⟨_, rfl⟩
      rw [← hn1]
      have rn1 : 0 ≤ n1 ∧ n1 < 9 := by rw [hn1]; exact numAt_rng (by omega)
      clear hn1
      replace hB := below_next hB hbn
      replace hrow := row_below hrow hbn
      replace hxr := hxr.up hbn
      clear hbn
      obtain ⟨b, o, hAr, hbb, hcc⟩ := int_cell hxr (i := 2 * k) (by omega)
      subst hAr
      have hce := hcc (2 * k) (by omega)
      have hidx : (2 * (k : Int)).toNat = 2 * k := by omega
      have hwe := hwx (2 * k)
      by_cases t97 : (ati xs (2 * k)).tmod 97 = 3
      · have t97' : ((ati xs (2 * k)).tmod 97 == 3) = true := by simpa using t97
        clear t97
        go_wp2_with fail
        refine (number_any _ capr xs _ _ _ hxr hwx (by omega) (by omega) (by omega)).mono ?_; rintro e wb ⟨rfl, hbn⟩
        obtain ⟨n2, hn2⟩ : ∃ n, n = numAt xs (2 * (k : Int) + 1).toNat 21 := ⟨_, rfl⟩
        rw [← hn2]
        have rn2 : 0 ≤ n2 ∧ n2 < 21 := by rw [hn2]; exact numAt_rng (by omega)
        clear hn2
        replace hB := below_next hB hbn
        replace hrow := row_below hrow hbn
        replace hxr := hxr.up hbn
        clear hbn
        go_wp2_with fail
        refine (number_any _ capr xs _ _ _ hxr hwx (by omega) (by omega) (by omega)).mono ?_; rintro e wc ⟨rfl, hbn⟩
        obtain ⟨n3, hn3⟩ : ∃ n, n = numAt xs (2 * (k : Int)).toNat 5 := ⟨_, rfl⟩
        rw [← hn3]
        have rn3 : 0 ≤ n3 ∧ n3 < 5 := by rw [hn3]; exact numAt_rng (by omega)
        clear hn3
        replace hB := below_next hB hbn
        replace hrow := row_below hrow hbn
        replace hxr := hxr.up hbn
        clear hbn
        go_wp2_with fail
        refine (number_any _ capr xs _ _ _ hxr hwx (by omega) (by omega) (by omega)).mono ?_; rintro e wd ⟨rfl, hbn⟩
        obtain ⟨n4, hn4⟩ : ∃ n, n = numAt xs (2 * (k : Int) + 1).toNat 4 := ⟨_, rfl⟩
        rw [← hn4]
        have rn4 : 0 ≤ n4 ∧ n4 < 4 := by rw [hn4]; exact numAt_rng (by omega)
        clear hn4
        replace hB := below_next hB hbn
        replace hrow := row_below hrow hbn
        replace hxr := hxr.up hbn
        clear hbn
        have hrowA := hrow.alloc (.cells #[.int .i64 (at_ + n1 - 5), .int .i64 n2, .int .i64 n3, .int .i64 n4, .int .i64 0, .int .i64 0] 36)
        have hsz := hB.size
        have hBA := hB.alloc hsz (.cells #[.int .i64 (at_ + n1 - 5), .int .i64 n2, .int .i64 n3, .int .i64 n4, .int .i64 0, .int .i64 0] 36)
        have hlow := hrow.lt
        clear hrow hB
        go_wp2_with (first | (at_builtin; go_loud (refine wpList_append_own_at _ rfl _ _ 26 rfl W.heap.size 36 i36 (.agg #[.int .i64 0, .int .i64 0, .int .i64 0, .int .i64 0, .int .i64 0, .int .i64 0]) 6 48 Try.underlying26 hi36 hz36 hs36 hb36 rfl (by decide) _ _ _ rfl hrowA ⟨wd.heap.size, 0, none⟩ 1 1 [.int .i64 (at_ + n1 - 5), .int .i64 n2, .int .i64 n3, .int .i64 n4, .int .i64 0, .int .i64 0] rfl rfl ?c1 ?c2 ?c3 ?c4 ?c5 ?_)) | fail)
        case c1 => exact cells_new_at (by simp)
        case c2 => intro u hu; simp at hu; rcases hu with rfl | rfl | rfl | rfl | rfl <;> rfl
        case c3 => unfold maxLen; omega
        case c4 => omega
        case c5 => simp; omega
        intro v' w' hown' hgrow _ _
        have hB5 := below_grown hBA hgrow hBA.size (fun x e => (hlow x e).1)
        clear hgrow hBA hrowA hlow hxr hXW hcc
        go_wp2
        go_roundw
        case rel => exact ⟨k + 1, (at_ + n1 - 5), ms ++ [⟨(at_ + n1 - 5), ⟨n2, n3, n4, 0, 0⟩⟩], by omega, rfl, by go_num, by omega, by omega, hB5, by simpa [St.enc] using hown', by
          intro j hj
          by_cases hjm : j < ms.length
          · rw [List.getElem_append_left hjm]; exact hwm j hjm
          · rw [List.getElem_append_right (by omega)]; simp at hj; simp [show j - ms.length = 0 from by omega]; omega, by simp; omega⟩
        case measure => simp [intOf] <;> omega
      · have t97' : ((ati xs (2 * k)).tmod 97 == 3) = false := by simpa using t97
        clear t97
        go_wp2_with fail
        refine (number_any _ capr xs _ _ _ hxr hwx (by omega) (by omega) (by omega)).mono ?_; rintro e wb ⟨rfl, hbn⟩
        obtain ⟨n2, hn2⟩ : ∃ n, n = numAt xs (2 * (k : Int) + 1).toNat 21 := ⟨_, rfl⟩
        rw [← hn2]
        have rn2 : 0 ≤ n2 ∧ n2 < 21 := by rw [hn2]; exact numAt_rng (by omega)
        clear hn2
        replace hB := below_next hB hbn
        replace hrow := row_below hrow hbn
        replace hxr := hxr.up hbn
        clear hbn
        go_wp2_with fail
        refine (number_any _ capr xs _ _ _ hxr hwx (by omega) (by omega) (by omega)).mono ?_; rintro e wc ⟨rfl, hbn⟩
        obtain ⟨n3, hn3⟩ : ∃ n, n = numAt xs (2 * (k : Int)).toNat 5 := ⟨_, rfl⟩
        rw [← hn3]
        have rn3 : 0 ≤ n3 ∧ n3 < 5 := by rw [hn3]; exact numAt_rng (by omega)
        clear hn3
        replace hB := below_next hB hbn
        replace hrow := row_below hrow hbn
        replace hxr := hxr.up hbn
        clear hbn
        go_wp2_with fail
        refine (number_any _ capr xs _ _ _ hxr hwx (by omega) (by omega) (by omega)).mono ?_; rintro e wd ⟨rfl, hbn⟩
        obtain ⟨n4, hn4⟩ : ∃ n, n = numAt xs (2 * (k : Int) + 1).toNat 4 := ⟨_, rfl⟩
        rw [← hn4]
        have rn4 : 0 ≤ n4 ∧ n4 < 4 := by rw [hn4]; exact numAt_rng (by omega)
        clear hn4
        replace hB := below_next hB hbn
        replace hrow := row_below hrow hbn
        replace hxr := hxr.up hbn
        clear hbn
        have hrowA := hrow.alloc (.cells #[.int .i64 (at_ + n1), .int .i64 n2, .int .i64 n3, .int .i64 n4, .int .i64 0, .int .i64 0] 36)
        have hsz := hB.size
        have hBA := hB.alloc hsz (.cells #[.int .i64 (at_ + n1), .int .i64 n2, .int .i64 n3, .int .i64 n4, .int .i64 0, .int .i64 0] 36)
        have hlow := hrow.lt
        clear hrow hB
        go_wp2_with (first | (at_builtin; go_loud (refine wpList_append_own_at _ rfl _ _ 26 rfl W.heap.size 36 i36 (.agg #[.int .i64 0, .int .i64 0, .int .i64 0, .int .i64 0, .int .i64 0, .int .i64 0]) 6 48 Try.underlying26 hi36 hz36 hs36 hb36 rfl (by decide) _ _ _ rfl hrowA ⟨wd.heap.size, 0, none⟩ 1 1 [.int .i64 (at_ + n1), .int .i64 n2, .int .i64 n3, .int .i64 n4, .int .i64 0, .int .i64 0] rfl rfl ?c1 ?c2 ?c3 ?c4 ?c5 ?_)) | fail)
        case c1 => exact cells_new_at (by simp)
        case c2 => intro u hu; simp at hu; rcases hu with rfl | rfl | rfl | rfl | rfl <;> rfl
        case c3 => unfold maxLen; omega
        case c4 => omega
        case c5 => simp; omega
        intro v' w' hown' hgrow _ _
        have hB5 := below_grown hBA hgrow hBA.size (fun x e => (hlow x e).1)
        clear hgrow hBA hrowA hlow hxr hXW hcc
        go_wp2
        go_roundw
        case rel => exact ⟨k + 1, (at_ + n1), ms ++ [⟨(at_ + n1), ⟨n2, n3, n4, 0, 0⟩⟩], by omega, rfl, by go_num, by omega, by omega, hB5, by simpa [St.enc] using hown', by
          intro j hj
          by_cases hjm : j < ms.length
          · rw [List.getElem_append_left hjm]; exact hwm j hjm
          · rw [List.getElem_append_right (by omega)]; simp at hj; simp [show j - ms.length = 0 from by omega]; omega, by simp; omega⟩
        case measure => simp [intOf] <;> omega
    · go_wp2_with fail
      refine (awake_any wr).mono ?_; rintro e w5 ⟨rfl, hb5⟩
      have hW5 := below_next hB hb5
      have hB5 := below_next hB4 hW5
      have hK5 := hK4.below hW5 hK4.lt
      have hD5 := hD4.below hW5 hD4.lt
      have hrow5 := row_below hrow hb5
      have hd5 := hd4.up hW5
      clear hb5 hrow hB hd4 hK4 hD4 hxr hXW
      have hcs := hK5.cell
      go_wp2_with fail
      clear hcs
      refine (agree_any c p A cap l w5 (hc.up hB5) (hl.up hB5) (by omega) hwl).mono ?_; rintro e w6 ⟨rfl, hb6⟩
      have hB6 := below_next hB5 hb6
      have hD6 := hD5.below hb6 hD5.lt
      have hrow6 := row_below hrow5 hb6
      have hd6 := hd5.up hb6
      clear hb6 hB5 hK5 hD5 hrow5 hd5
      have hcs := hD6.cell
      go_wp2_with fail
      clear hcs
      refine (agree_any d q A cap l w6 hd6 (hl.up hB6) (by omega) hwl).mono ?_; rintro e w7 ⟨rfl, hb7⟩
      have hB7 := below_next hB6 hb7
      have hD7 := hD6.below hb7 hD6.lt
      have hrow7 := row_below hrow6 hb7
      have hd7 := hd6.up hb7
      clear hb7 hB6 hD6 hrow6 hd6
      have hcs := hD7.cell
      go_wp2_with fail
      clear hcs
      obtain ⟨A', c', hv', hs7⟩ := sl_of_row (enc := St.enc) (fun _ => rfl) hrow7 (by omega)
      injection hv' with hv1 _ hv2
      subst hv1 hv2
      refine (agree_any d q Am cm ms w7 hd7 hs7 (by omega) hwm).mono ?_; rintro e w8 ⟨rfl, hb8⟩
      have hB8 := below_next hB7 hb8
      clear hb8 hB7 hD7 hrow7 hd7 hs7
      go_wp2
      go_ret
      exact ⟨rfl, hB8⟩
end Go.Proofs.Ytnejajgldfmkhaa
