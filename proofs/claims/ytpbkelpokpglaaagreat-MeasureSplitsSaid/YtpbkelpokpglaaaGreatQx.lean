/- Contracts proved in another style, in the evaluator's words. No program occurs here. measure.Of in the evaluator's words. Plain laws: what is measured of two parts, and of the whole. -/
import Derived.Test.YtpbkelpokpglaaaGreatQm
import Derived.Test.YtpbkelpokpglaaaGreatQl
import Derived.Test.YtpbkelpokpglaaaGreatMeas6
import Derived.Test.YtpbkelpokpglaaaGreatQw
set_option linter.all false
namespace Go.Proofs.YtpbkelpokpglaaaGreat
section
open Go Go.RowKit
section
variable {S : Shp} {B : Nat} {w : World} {L : List SProp} {v : Value}
theorem pc_cases {f : Fl S.T S.M} {p : SProp} (h0 : ∀ h, pcW S.kt (fun _ _ _ _ => False) (fun _ _ _ _ _ => False) f v h → p h) (h1 : ∀ n h, pcW S.kt (obW S.kt (pcN S.kt n)) (rwW S.kt (pcN S.kt n)) f v h → p h) : ∀ h, pcS S.kt f v h → p h := fun h ⟨n, hn⟩ => by
  cases n with
  | zero => exact h0 h hn
  | succ n => exact h1 n h hn
theorem sat_i {k : IntKind} {x : Int} (s : Sat B w (pcS S.kt (.i k x) v :: L)) : v = .int k x ∧ Sat B w L := by
  have s1 : Sat B w (pureS (v = .int k x) :: L) := sat_head (pc_cases (f := .i k x) (fun _ h => h) fun _ _ h => h) s
  obtain ⟨h, H, k1, k2, a, e, h1, h2⟩ := s1
  exact ⟨h1, s.drop⟩
theorem sat_ro {c : Nat} {xs : List (S.T c)} (s : Sat B w (pcS S.kt (.ro c xs) v :: L)) : ∃ A cap, v = .slice A xs.length cap ∧ Sl (encF S.kt c) (S.kt.sz c) w w.heap.size A xs := by
  have s1 : Sat B w ((fun h => ∃ A cap, v = .slice A xs.length cap ∧ roS (encF S.kt c) (S.kt.sz c) A cap xs h) :: L) := sat_head (pc_cases (f := .ro c xs) (fun _ h => h) fun _ _ h => h) s
  obtain ⟨h, H, k1, k2, a, e, ⟨A, cap, e1, h1⟩, h2⟩ := s1
  have s2 : Sat B w (roS (encF S.kt c) (S.kt.sz c) A cap xs :: L) := ⟨h, H, k1, k2, a, e, h1, h2⟩
  exact ⟨A, cap, e1, (ro_sl s2 List.mem_cons_self).1⟩
theorem sat_rr {c : Nat} {xss : List (List (S.T c))} (s : Sat B w (pcS S.kt (.rr c xss) v :: L)) : ∃ A cap, v = .slice A xss.length cap ∧ xss.length ≤ 9223372036854775807 ∧ ∃ ps : List (Option Addr × Nat),
    ∀ (i : Nat) xs, xss[i]? = some xs → ∃ a, ps[i]? = some a ∧ (Sl (encF S.kt c) (S.kt.sz c) w w.heap.size a.1 xs ∧ xs.length ≤ a.2) ∧ ∃ b o, A = some ⟨b, o, none⟩ ∧ b < w.heap.size ∧ w.cell? ⟨b, o + i, none⟩ = some (.slice a.1 xs.length a.2) := by
  have s1 : Sat B w ((fun h => ∃ A cap, v = .slice A xss.length cap ∧ rrS (encF S.kt c) (S.kt.sz c) A cap xss h) :: L) := sat_head (pc_cases (f := .rr c xss) (fun _ h => h) fun _ _ h => h) s
  obtain ⟨h, H, k1, k2, a, e, ⟨A, cap, e1, ps, h1⟩, h2⟩ := s1
  have s2 : Sat B w (lookS _ :: L) := ⟨h, H, k1, k2, a, e, h1, h2⟩
  have h3 := look_sat s2 List.mem_cons_self
  exact ⟨A, cap, e1, h3.1.1, ps, h3.2⟩
theorem sat_fs {f : Fl S.T S.M} {fs : List (Fl S.T S.M)} {us : List Value} (s : Sat B w (fsS (pcS S.kt) (f :: fs) us ++ L)) : ∃ u us', us = u :: us' ∧ Sat B w (pcS S.kt f u :: (fsS (pcS S.kt) fs us' ++ L)) := by
  cases us with
  | nil => exact sat_false s
  | cons u us' => exact ⟨u, us', rfl, s⟩
theorem sat_fs0 {us : List Value} (s : Sat B w (fsS (pcS S.kt) [] us ++ L)) : us = [] ∧ Sat B w L := by
  cases us with
  | nil => exact ⟨rfl, s⟩
  | cons u us' => exact sat_false s
theorem sat_fi {k : IntKind} {x : Int} {fs : List (Fl S.T S.M)} {us : List Value} (s : Sat B w (fsS (pcS S.kt) (.i k x :: fs) us ++ L)) : ∃ us', us = .int k x :: us' ∧ Sat B w (fsS (pcS S.kt) fs us' ++ L) := by
  obtain ⟨u, us', e, s1⟩ := sat_fs s
  obtain ⟨e2, s2⟩ := sat_i s1
  subst e2
  exact ⟨us', e, s2⟩
/-- Plain fields hold of any memory. -/
def pureB : List (Fl S.T S.M) → Bool
  | [] => true
  | .i .. :: l => pureB l
  | .b .. :: l => pureB l
  | _ => false
theorem star_plain : ∀ (fs : List (Fl S.T S.M)) (h : Hp), pureB fs = true → star (fsS (pcS S.kt) fs (fs.map flV)) h
  | [], _, _ => trivial
  | .i k x :: l, h, hp => ⟨fun _ _ => none, h, fun _ _ => .inl rfl, by funext a b; rfl, ⟨0, rfl⟩, star_plain l h hp⟩
  | .b x :: l, h, hp => ⟨fun _ _ => none, h, fun _ _ => .inl rfl, by funext a b; rfl, ⟨0, rfl⟩, star_plain l h hp⟩
theorem sat_valI {c : Nat} {x : S.T c} (hp : pureB (S.kt.vw c x) = true) (s : Sat B w L) : Sat B w (valS S c x (.agg ((S.kt.vw c x).map flV).toArray) :: L) :=
  sat_pureI s fun k => ⟨_, rfl, star_plain _ k hp⟩
theorem sat_iI {k : IntKind} {x : Int} (s : Sat B w L) : Sat B w (pcS S.kt (.i k x) (.int k x) :: L) := sat_pureI s fun _ => ⟨0, rfl⟩
end
section
variable {B : Nat} {w : World} {L : List SProp} {v : Value}
theorem sat_cfg {c : Cfg} (s : Sat B w (valS SR1 13 c v :: L)) : ∃ p, v = cfgV c p ∧ CfgIn w w.heap.size c p ∧ Sat B w L := by
  obtain ⟨us, e, s0⟩ := sat_val s
  have s0' : Sat B w (fsS (pcS SR1.kt) [.i .i64 c.workers, .i .i64 c.levels, .i .i64 c.classes, .i .i64 c.tasks, .i .i64 c.deque, .i .i64 c.heap, .i .i64 c.batch, .i .i64 c.age, .i .i64 c.patience, .rr 3 c.progs, .ro 4 c.subs] us ++ L) := s0
  obtain ⟨us1, rfl, s1⟩ := sat_fi s0'
  obtain ⟨us2, rfl, s2⟩ := sat_fi s1
  obtain ⟨us3, rfl, s3⟩ := sat_fi s2
  obtain ⟨us4, rfl, s4⟩ := sat_fi s3
  obtain ⟨us5, rfl, s5⟩ := sat_fi s4
  obtain ⟨us6, rfl, s6⟩ := sat_fi s5
  obtain ⟨us7, rfl, s7⟩ := sat_fi s6
  obtain ⟨us8, rfl, s8⟩ := sat_fi s7
  obtain ⟨us9, rfl, s9⟩ := sat_fi s8
  obtain ⟨u10, us10, rfl, s10⟩ := sat_fs s9
  obtain ⟨A, ca, rfl, hl, ps, hA⟩ := sat_rr s10
  obtain ⟨u11, us11, rfl, s11⟩ := sat_fs s10.drop
  obtain ⟨A2, ca2, rfl, hA2⟩ := sat_ro s11
  obtain ⟨rfl, s12⟩ := sat_fs0 s11.drop
  refine ⟨⟨A, ca, A2, ca2⟩, e, ⟨⟨hl, fun hne => ?_⟩, hA2⟩, s12⟩
  cases hp : c.progs with
  | nil => exact absurd hp hne
  | cons x xs =>
    obtain ⟨a0, _, _, b, o, e1, hb, _⟩ := hA 0 x (by rw [hp]; rfl)
    refine ⟨b, o, e1, hb, fun i p hi => ?_⟩
    obtain ⟨a1, g1, g2, b', o', e2, hb', hc'⟩ := hA i p (by rw [hp]; exact hi)
    rw [e1] at e2
    cases e2
    exact ⟨a1.1, a1.2, hc', g2.1⟩
theorem sat_st {l : List St} (s : Sat B w (pcS SR1.kt (.ro 6 l) v :: L)) : ∃ A cap, v = .slice A l.length cap ∧ Sl St.enc 6 w w.heap.size A l := sat_ro (S := SR1) (c := 6) s
end
end
section
open Go Go.RowKit
/-- The figures of a list of stamped events. -/
def fgV (l : List St) : FgV := ⟨cnt l 1, cnt l 2, cnt l 3, cnt l 4, cnt l 5, cnt l 10, cnt l 14, cnt l 15, cnt l 11, cnt l 12, cnt l 16, latSum l l.length, latMax l l.length⟩
open Classical in
noncomputable def meOf (c : Cfg) (l : List St) : Option ((FgV × Int × Unit) × Unit) :=
  if StWf l ∧ l.length ≤ 1048576 then (if measErr c l = 0 then some ((fgV l, 0, ()), ()) else some ((⟨0, 0, 0, 0, 0, 0, 0, 0, 0, 0, 0, 0, 0⟩, measErr c l, ()), ())) else none
noncomputable abbrev meOf_k : Con SR1 := ⟨18, [.val 13, .sh (.ro 6)], [.val 21, .sh sI_], fun x => meOf x.1 x.2.1⟩
theorem meOf_aux (c : Cfg) (l : List St) (out : (FgV × Int × Unit) × Unit) (hx : meOf c l = some out) (B : Nat) (W : World) (vs : List Value) (F : SProp) (w : World) (hc : Cls B W (PreS SR1 [.val 13, .sh (.ro 6)] ((c, l, ()) : Cfg × List St × Unit) vs ++ [F]) w) :
    Calls Tryz.prog meOf_k.f vs.toArray w fun e w' => ∃ us, e = .returned (tupled us) ∧ Cls B W (ResS SR1 [.val 21, .sh sI_] out.1 us ++ [F]) w' := by
  obtain ⟨hb, hB, hs⟩ := hc
  rcases vs with _ | ⟨v1, _ | ⟨v2, _ | ⟨v3, vs⟩⟩⟩
  · exact sat_false hs
  · replace hs : Sat B w (valS SR1 13 c v1 :: ([fun _ => False] ++ [F])) := hs
    exact sat_false hs.drop
  rotate_left
  · replace hs : Sat B w (valS SR1 13 c v1 :: pcS SR1.kt (.ro 6 l) v2 :: ([fun _ => False] ++ [F])) := hs
    exact sat_false hs.drop.drop
  replace hs : Sat B w [valS SR1 13 c v1, pcS SR1.kt (.ro 6 l) v2, F] := hs
  obtain ⟨p, rfl, hp, s1⟩ := sat_cfg hs
  obtain ⟨A, cap, rfl, hl⟩ := sat_st s1
  have s2 := s1.drop
  unfold meOf at hx
  by_cases hg : StWf l ∧ l.length ≤ 1048576
  · rw [if_pos hg] at hx
    refine (of_any c p A cap l w hp hl hg.2 hg.1).mono fun e w' ⟨he, hb'⟩ => ?_
    have s3 := s2.below hb'
    have hB' : B ≤ w'.heap.size := Nat.le_trans hB hb'.size
    have hbb : Below B W w' := hb.trans (hb'.mono hB)
    by_cases hz : measErr c l = 0
    · rw [if_pos hz] at hx
      cases hx
      exact ⟨[.agg ((SR1.kt.vw 21 (fgV l)).map flV).toArray, .int .i64 0], by
        rw [he]
        unfold ofV
        rw [if_pos hz]
        unfold figV fgV
        rw [List.take_length]
        rfl, hbb, hB', sat_valI (S := SR1) (c := 21) rfl (sat_iI s3)⟩
    · rw [if_neg hz] at hx
      cases hx
      exact ⟨[.agg ((SR1.kt.vw 21 (⟨0, 0, 0, 0, 0, 0, 0, 0, 0, 0, 0, 0, 0⟩ : FgV)).map flV).toArray, .int .i64 (measErr c l)], by
        rw [he]
        unfold ofV
        rw [if_neg hz]
        rfl, hbb, hB', sat_valI (S := SR1) (c := 21) rfl (sat_iI s3)⟩
  · rw [if_neg hg] at hx; cases hx
theorem meOf_ok : CO Tryz.prog meOf_k := fun x out hx B W vs F w hc => (meOf_aux x.1 x.2.1 out hx B W vs F w hc).mono fun e w' ⟨us, he, h⟩ => ⟨us, he, by
  have e0 : PostS SR1 meOf_k.ps out.2 vs = [] := by
    rcases vs with _ | ⟨v1, _ | ⟨v2, vs⟩⟩ <;> rfl
  rw [e0]; exact h⟩
end
section
open Go
theorem insOk_of {lv np : Int} {i : Ins} (hl : lv ≤ 4) (h : InsOk np lv i) : insOk lv np i = true := by
  unfold insOk inB
  rcases h with ⟨h0, h1, h2, h3⟩ | ⟨h0, h1, h2, h3, h4⟩ | ⟨h0, h1, h2, h3⟩
  · rw [if_pos h0]; simp only [Bool.and_eq_true, decide_eq_true_eq, beq_iff_eq]; omega
  · rw [if_neg (by omega), if_pos h0]; simp only [Bool.and_eq_true, decide_eq_true_eq]; omega
  · rw [if_neg (by omega), if_neg (by omega), if_pos h0]; simp only [Bool.and_eq_true, decide_eq_true_eq, beq_iff_eq]; omega
theorem progsErr0 {lv np : Int} : ∀ ps : List (List Ins), (∀ p ∈ ps, p.length ≤ 5 ∧ ∀ i ∈ p, insOk lv np i = true) → progsErr lv np ps = 0
  | [], _ => rfl
  | p :: ps, h => by
    have h1 := h p List.mem_cons_self
    unfold progsErr
    rw [if_neg (by omega), if_pos (List.all_eq_true.2 h1.2)]
    exact progsErr0 ps fun q hq => h q (List.mem_cons_of_mem _ hq)
theorem subsErr0 {lv np : Int} : ∀ ss : List Sub, (∀ s ∈ ss, SubOk np lv s) → subsErr lv np ss = 0
  | [], _ => rfl
  | s :: ss, h => by
    obtain ⟨h1, h2, h3⟩ := h s List.mem_cons_self
    have e : subErr lv np s = 0 := by
      unfold subErr inB
      rw [if_neg (by simp only [Bool.not_eq_true', Bool.and_eq_false_iff, decide_eq_false_iff_not]; omega), if_neg (by simp only [Bool.or_eq_true, Bool.not_eq_true', Bool.and_eq_false_iff, decide_eq_false_iff_not]; omega)]
    unfold subsErr
    rw [if_pos e]
    exact subsErr0 ss fun q hq => h q (List.mem_cons_of_mem _ hq)
section
variable {c : Cfg}
theorem DecOk.err (h : DecOk c) : cfgErr c = 0 := by
  have hn : numsOk c = true := by
    have := h.w; have := h.l; have := h.k; have := h.t; have := h.q; have := h.h; have := h.b; have := h.a; have := h.p
    unfold numsOk inB
    rw [if_pos (by omega)]
    simp only [Bool.and_eq_true, decide_eq_true_eq]
    omega
  have hp : progsAll c = 0 := by
    have := h.pn
    unfold progsAll inB
    rw [if_neg (by simp only [Bool.not_eq_true', Bool.and_eq_false_iff, decide_eq_false_iff_not]; omega)]
    exact progsErr0 _ fun p hp => ⟨h.pl p hp, fun i hi => insOk_of h.l.2 (h.ps p hp i hi)⟩
  have hs : subsAll c = 0 := by
    have := h.sn
    unfold subsAll
    rw [if_neg (by omega)]
    exact subsErr0 _ fun s hs => h.ss s hs
  unfold cfgErr
  rw [hn, hp, hs]; rfl
theorem DecOk.ok (h : DecOk c) : CfgOk c := by
  have := h.w; have := h.l; have := h.k; have := h.t; have := h.q
  refine ⟨by omega, by omega, by omega, by omega, by omega, by omega, by omega, by omega, by omega, by omega, by have := h.sn; omega, fun s hs => ?_, fun p hp x hx => ?_⟩
  · obtain ⟨h1, h2, h3⟩ := h.ss s hs
    have := h.pn
    exact ⟨rg_lit (by omega), rg_lit (by omega), rg_lit (by omega)⟩
  · have := h.pn
    rcases h.ps p hp x hx with h0 | h0 | h0
    · exact ⟨rg_lit (by omega), rg_lit (by omega), fun h1 => absurd h0.1 h1⟩
    · exact ⟨rg_lit (by omega), rg_lit (by omega), fun _ h1 => absurd h0.1 h1⟩
    · exact ⟨rg_lit (by omega), rg_lit (by omega), fun _ _ => h0.2.1⟩
end
theorem config_good {b : List Int} (hb : ∀ x ∈ b, 0 ≤ x ∧ x ≤ 255) (hl : b.length ≤ 1000000) : Good (kconfig b) fun o => DecOk o.1.1 := by
  unfold kconfig
  exact (decode_good hb hl).bind fun r h => .some_ h
/-- Stamps that do not fall. -/
def Srt (l : List St) : Prop := ∀ (i j : Nat) (hi : i < l.length) (hj : j < l.length), i ≤ j → l[i].at_ ≤ l[j].at_
theorem ordOk_of {l : List St} (h : Srt l) : ∀ n, n ≤ l.length → ordOk l n = true
  | 0, _ => rfl
  | n + 1, hn => by
    unfold ordOk
    rw [ordOk_of h n (by omega), Bool.true_and, decide_eq_true_eq]
    by_cases h0 : n = 0
    · exact .inl h0
    · refine .inr ?_
      rw [atAt_get (by omega), atAt_get (by omega)]
      exact h _ _ _ _ (by omega)
theorem measErr0 {c : Cfg} {l : List St} (hc : cfgErr c = 0) (hr : RngAll l) (hs : Srt l) : measErr c l = 0 := by
  have h1 : l.all rngB = true := List.all_eq_true.2 fun x hx => by
    obtain ⟨i, hi, rfl⟩ := List.getElem_of_mem hx
    have := hr i hi
    unfold rngB
    simp only [Bool.and_eq_true, decide_eq_true_eq]; omega
  unfold measErr stErr
  rw [if_pos hc, if_pos h1, if_pos (ordOk_of hs _ (Nat.le_refl _))]
theorem meOf_eq {c : Cfg} {l : List St} (hw : StWf l) (hl : l.length ≤ 1048576) (he : measErr c l = 0) : meOf c l = some ((fgV l, 0, ()), ()) := by
  unfold meOf
  rw [if_pos ⟨hw, hl⟩, if_pos he]
section
variable {m n : List St}
theorem born_left {t : Int} : ∀ i, i ≤ m.length → bornAt (m ++ n) t i = bornAt m t i
  | 0, _ => rfl
  | i + 1, h => by
    unfold bornAt
    rw [List.getElem?_append_left (by omega), born_left i (by omega)]
theorem born_right {t v : Int} : ∀ j, bornAt n t j = some v → bornAt (m ++ n) t (m.length + j) = some v
  | 0, h => by cases h
  | j + 1, h => by
    rw [← Nat.add_assoc]
    unfold bornAt at h ⊢
    rw [List.getElem?_append_right (by omega), show m.length + j - m.length = j by omega]
    cases hx : n[j]? with
    | none => rw [hx] at h; exact born_right j h
    | some x =>
      rw [hx] at h
      simp only at h ⊢
      split
      · rename_i g; rw [if_pos g] at h; exact h
      · rename_i g; rw [if_neg g] at h; exact born_right j h
theorem lat_left {i : Nat} (h : i < m.length) : latAt (m ++ n) i = latAt m i := by
  unfold latAt
  rw [List.getElem?_append_left h]
  cases m[i]? with
  | none => rfl
  | some x => simp only; rw [born_left i (by omega)]
theorem lat_right {j : Nat} {v : Int} (h : latAt n j = some v) : latAt (m ++ n) (m.length + j) = some v := by
  unfold latAt at h ⊢
  rw [List.getElem?_append_right (by omega), show m.length + j - m.length = j by omega]
  cases hx : n[j]? with
  | none => rw [hx] at h; cases h
  | some x =>
    rw [hx] at h
    simp only at h ⊢
    split
    · rename_i g
      rw [if_pos g] at h
      obtain ⟨u, hu, hv⟩ := Option.map_eq_some_iff.1 h
      rw [born_right j hu, ← hv]; rfl
    · rename_i g; rw [if_neg g] at h; cases h
theorem born_mem {l : List St} {t v : Int} : ∀ i, bornAt l t i = some v → ∃ (j : Nat) (hj : j < l.length), j < i ∧ l[j].at_ = v
  | 0, h => by cases h
  | i + 1, h => by
    unfold bornAt at h
    cases hx : l[i]? with
    | none =>
      rw [hx] at h
      obtain ⟨j, h1, h2, h3⟩ := born_mem i h
      exact ⟨j, h1, by omega, h3⟩
    | some x =>
      rw [hx] at h
      simp only at h
      split at h
      · obtain ⟨h1, h2⟩ := List.getElem?_eq_some_iff.1 hx
        exact ⟨i, h1, by omega, by rw [h2]; exact Option.some.inj h⟩
      · obtain ⟨j, h1, h2, h3⟩ := born_mem i h
        exact ⟨j, h1, by omega, h3⟩
theorem lat_nonneg {l : List St} (hs : Srt l) {i : Nat} {v : Int} (h : latAt l i = some v) : 0 ≤ v := by
  unfold latAt at h
  cases hx : l[i]? with
  | none => rw [hx] at h; cases h
  | some x =>
    rw [hx] at h
    simp only at h
    split at h
    · obtain ⟨u, hu, hv⟩ := Option.map_eq_some_iff.1 h
      obtain ⟨j, h1, h2, h3⟩ := born_mem i hu
      obtain ⟨h4, h5⟩ := List.getElem?_eq_some_iff.1 hx
      have := hs j i h1 h4 (by omega)
      rw [h5, h3] at this
      omega
    · cases h
theorem latSum_left : ∀ i, i ≤ m.length → latSum (m ++ n) i = latSum m i
  | 0, _ => rfl
  | i + 1, h => by unfold latSum; rw [latSum_left i (by omega), lat_left (by omega)]
theorem latMax_left : ∀ i, i ≤ m.length → latMax (m ++ n) i = latMax m i
  | 0, _ => rfl
  | i + 1, h => by unfold latMax; rw [latMax_left i (by omega), lat_left (by omega)]
theorem latSum_succ {l : List St} {k : Nat} : latSum l (k + 1) = latSum l k + (latAt l k).getD 0 := rfl
theorem latSum_split (hs : Srt (m ++ n)) : ∀ j, latSum m m.length + latSum n j ≤ latSum (m ++ n) (m.length + j)
  | 0 => by rw [Nat.add_zero, latSum_left _ (Nat.le_refl _)]; show _ + 0 ≤ _; omega
  | j + 1 => by
    have ih := latSum_split hs j
    rw [← Nat.add_assoc, latSum_succ, latSum_succ]
    cases h : latAt n j with
    | some v => rw [lat_right h]; simp only [Option.getD_some]; omega
    | none =>
      have h0 : 0 ≤ (latAt (m ++ n) (m.length + j)).getD 0 := by
        cases h' : latAt (m ++ n) (m.length + j) with
        | none => exact Int.le_refl 0
        | some v => exact lat_nonneg hs h'
      simp only [Option.getD_none]
      omega
theorem latMax_split : ∀ j, latMax m m.length ≤ latMax (m ++ n) (m.length + j) ∧ latMax n j ≤ latMax (m ++ n) (m.length + j)
  | 0 => by rw [Nat.add_zero, latMax_left _ (Nat.le_refl _)]; exact ⟨Int.le_refl _, (latMax_nn m _)⟩
  | j + 1 => by
    have ih := latMax_split j
    rw [← Nat.add_assoc, latMax_succ, latMax_succ]
    cases h : latAt n j with
    | some v =>
      rw [lat_right h]
      simp only
      split <;> split <;> omega
    | none =>
      simp only
      cases h' : latAt (m ++ n) (m.length + j) with
      | none => exact ih
      | some v => simp only; split <;> omega
where
  latMax_nn (m : List St) : ∀ i, 0 ≤ latMax m i
    | 0 => Int.le_refl 0
    | i + 1 => by
      have := latMax_nn m i
      rw [latMax_succ]
      split
      · split <;> omega
      · exact this
  latMax_succ {l : List St} {k : Nat} : latMax l (k + 1) = match latAt l k with
    | some v => if latMax l k < v then v else latMax l k
    | none => latMax l k := rfl
end
end
end Go.Proofs.YtpbkelpokpglaaaGreat
