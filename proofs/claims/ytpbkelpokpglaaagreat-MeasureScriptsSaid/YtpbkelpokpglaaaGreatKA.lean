/- Plain safety, 7: what a line does behind another machine. Plain safety, 8: a line; a step. Plain safety, 9: an entry, a list of entries, a new engine, the stamped events. -/
import Derived.Test.YtpbkelpokpglaaaGreatKz
import Derived.Test.YtpbkelpokpglaaaGreatKu
import Derived.Test.YtpbkelpokpglaaaGreatKw
set_option linter.all false
namespace Go.Proofs.YtpbkelpokpglaaaGreat
section
open Go
structure BackP (K : Nat) (c : Cfg) (p : FrV) (r : ResV) (rs' : List RecV) (es' : List Ev) (p' : FrV) : Prop where
  fr : FrR (K + 1) p'
  kind : p'.kind = p.kind
  val : Rg r.value
  top : r.done = false → TopOk c p'
  rcs : RcsR (K + 1) c rs'
  es : EvsR (K + 1) es'
section
variable {K : Nat} {c : Cfg} {p : FrV} {recs : List RecV} {evs : List Ev} {code value : Int}
theorem BackP.of {r : ResV} {rs' : List RecV} {es' : List Ev} {p' : FrV} (h : FrR (K + 1) p') (hk : p'.kind = p.kind) (hv : Rg r.value) (h4 : p.kind ≠ 24) (h6 : p.kind ≠ 26) (h1 : p.kind ≠ 21) (hr : RcsR (K + 1) c rs') (he : EvsR (K + 1) es') : BackP K c p r rs' es' p' :=
  ⟨h, hk, hv, fun _ => topOk_of (by rw [hk]; exact h4) (by rw [hk]; exact h6) (fun e => absurd (hk.symm.trans e) h1), hr, he⟩
theorem backWalk (h : FrR K p) (hr : RcsR K c recs) (he : EvsR K evs) (hk : p.kind = 17) (hK : K ≤ 1000000000) : Good (r8backwalk_s evs p code) fun o => BackP K c p o.1 recs o.2.1 o.2.2 := by
  have h' := h.up
  have hr' := hr.up
  have he' := he.up
  unfold r8backwalk_s
  (repeat' (first | with_reducible refine Good.ite (fun _ => ?_) (fun _ => ?_) | with_reducible refine Good.bT (fun _ _ => ?_) | with_reducible refine Good.bind (mask_good _) (fun _ _ => ?_) | with_reducible refine Good.bind (bit_good _ _) (fun _ _ => ?_) | with_reducible refine Good.bind (low_good _) (fun _ _ => ?_) | with_reducible refine Good.bind (high_good _) (fun _ _ => ?_) | with_reducible refine Good.bind (unpack_good _) (fun _ _ => ?_) | with_reducible refine Good.bind (class_good _ _ _) (fun _ _ => ?_) | with_reducible refine Good.bind (emit_good he hK ?_ ?_ ?_ ?_ ?_) (fun _ _ => ?_)))
  all_goals first | (first | (first | with_reducible assumption | with_reducible exact rg_wi _ | (unfold Rg; omega)) | with_reducible exact (h).a | with_reducible exact (h).b | with_reducible exact (h).d | with_reducible exact (h).i | with_reducible exact (h).j | with_reducible exact (h).n | with_reducible exact (h).t) | (with_reducible refine Good.some_ ?_; ((refine BackP.of ?_ rfl ?_ (by omega) (by omega) (by omega) hr' ?_ <;> (try unfold r8end_s) <;> (try dsimp only) <;> first | with_reducible exact he' | with_reducible assumption | ((constructor <;> (try dsimp only) <;> first | with_reducible assumption | with_reducible exact (h').a | with_reducible exact (h').b | with_reducible exact (h').d | with_reducible exact (h').i | with_reducible exact (h').j | with_reducible exact (h').n | with_reducible exact (h').t | with_reducible exact (h').l | with_reducible exact (h').ln | with_reducible exact (h').cap | exact rg_wi _ | exact tmod_rg (by omega) (by omega))) | (first | (first | with_reducible assumption | with_reducible exact rg_wi _ | (unfold Rg; omega)) | with_reducible exact (h').a | with_reducible exact (h').b | with_reducible exact (h').d | with_reducible exact (h').i | with_reducible exact (h').j | with_reducible exact (h').n | with_reducible exact (h').t) | exact rg_wi _)))
theorem backDrain (h : FrR K p) (hr : RcsR K c recs) (he : EvsR K evs) (hv : Rg value) (hk : p.kind = 22) : BackP K c p (r8backdrain_s c p code value).1 recs evs (r8backdrain_s c p code value).2 := by
  have h' := h.up
  have hr' := hr.up
  have he' := he.up
  unfold r8backdrain_s
  repeat' split
  all_goals ((refine BackP.of ?_ rfl ?_ (by omega) (by omega) (by omega) hr' ?_ <;> (try unfold r8end_s) <;> (try dsimp only) <;> first | with_reducible exact he' | with_reducible assumption | ((constructor <;> (try dsimp only) <;> first | with_reducible assumption | with_reducible exact (h').a | with_reducible exact (h').b | with_reducible exact (h').d | with_reducible exact (h').i | with_reducible exact (h').j | with_reducible exact (h').n | with_reducible exact (h').t | with_reducible exact (h').l | with_reducible exact (h').ln | with_reducible exact (h').cap | exact rg_wi _ | exact tmod_rg (by omega) (by omega))) | (first | (first | with_reducible assumption | with_reducible exact rg_wi _ | (unfold Rg; omega)) | with_reducible exact (h').a | with_reducible exact (h').b | with_reducible exact (h').d | with_reducible exact (h').i | with_reducible exact (h').j | with_reducible exact (h').n | with_reducible exact (h').t) | exact rg_wi _))
theorem backTake (h : FrR K p) (hr : RcsR K c recs) (he : EvsR K evs) (hv : Rg value) (hk : p.kind = 23) : BackP K c p (r8backtake_s p code value).1 recs evs (r8backtake_s p code value).2 := by
  have h' := h.up
  have hr' := hr.up
  have he' := he.up
  unfold r8backtake_s
  repeat' split
  all_goals ((refine BackP.of ?_ rfl ?_ (by omega) (by omega) (by omega) hr' ?_ <;> (try unfold r8end_s) <;> (try dsimp only) <;> first | with_reducible exact he' | with_reducible assumption | ((constructor <;> (try dsimp only) <;> first | with_reducible assumption | with_reducible exact (h').a | with_reducible exact (h').b | with_reducible exact (h').d | with_reducible exact (h').i | with_reducible exact (h').j | with_reducible exact (h').n | with_reducible exact (h').t | with_reducible exact (h').l | with_reducible exact (h').ln | with_reducible exact (h').cap | exact rg_wi _ | exact tmod_rg (by omega) (by omega))) | (first | (first | with_reducible assumption | with_reducible exact rg_wi _ | (unfold Rg; omega)) | with_reducible exact (h').a | with_reducible exact (h').b | with_reducible exact (h').d | with_reducible exact (h').i | with_reducible exact (h').j | with_reducible exact (h').n | with_reducible exact (h').t) | exact rg_wi _))
theorem backWorker (h : FrR K p) (hr : RcsR K c recs) (he : EvsR K evs) (hv : Rg value) (hk : p.kind = 25) (hc : CfgOk c) (hK : K ≤ 1000000000) : Good (r8backworker_s c evs p code value) fun o => BackP K c p (⟨false, 0, 0⟩ : ResV) recs o.1 o.2 := by
  have h' := h.up
  have hr' := hr.up
  have he' := he.up
  have h1 := hc.t1
  have h2 := hc.t2
  have hm1 : 1 ≤ (if 1 < c.tasks then c.tasks else 1) := by split <;> omega
  have hm2 : (if 1 < c.tasks then c.tasks else 1) ≤ 65536 := by split <;> omega
  have hm : Rg (Int.tmod (wi (p.j + 1)) (if 1 < c.tasks then c.tasks else 1)) := tmod_rg hm1 hm2
  unfold r8backworker_s
  refine Good.ite (fun _ => .guard (by omega) fun _ => .some_ ?_) fun _ => ?_
  · ((refine BackP.of ?_ rfl ?_ (by omega) (by omega) (by omega) hr' ?_ <;> (try unfold r8end_s) <;> (try dsimp only) <;> first | with_reducible exact he' | with_reducible assumption | ((constructor <;> (try dsimp only) <;> first | with_reducible assumption | with_reducible exact (h').a | with_reducible exact (h').b | with_reducible exact (h').d | with_reducible exact (h').i | with_reducible exact (h').j | with_reducible exact (h').n | with_reducible exact (h').t | with_reducible exact (h').l | with_reducible exact (h').ln | with_reducible exact (h').cap | exact rg_wi _ | exact tmod_rg (by omega) (by omega))) | (first | (first | with_reducible assumption | with_reducible exact rg_wi _ | (unfold Rg; omega)) | with_reducible exact (h').a | with_reducible exact (h').b | with_reducible exact (h').d | with_reducible exact (h').i | with_reducible exact (h').j | with_reducible exact (h').n | with_reducible exact (h').t) | exact rg_wi _))
  (repeat' (first | with_reducible refine Good.ite (fun _ => ?_) (fun _ => ?_) | with_reducible refine Good.bT (fun _ _ => ?_) | with_reducible refine Good.bind (mask_good _) (fun _ _ => ?_) | with_reducible refine Good.bind (bit_good _ _) (fun _ _ => ?_) | with_reducible refine Good.bind (low_good _) (fun _ _ => ?_) | with_reducible refine Good.bind (high_good _) (fun _ _ => ?_) | with_reducible refine Good.bind (unpack_good _) (fun _ _ => ?_) | with_reducible refine Good.bind (class_good _ _ _) (fun _ _ => ?_) | with_reducible refine Good.bind (emit_good he hK ?_ ?_ ?_ ?_ ?_) (fun _ _ => ?_)))
  all_goals first | (first | (first | with_reducible assumption | with_reducible exact rg_wi _ | (unfold Rg; omega)) | with_reducible exact (h).a | with_reducible exact (h).b | with_reducible exact (h).d | with_reducible exact (h).i | with_reducible exact (h).j | with_reducible exact (h).n | with_reducible exact (h).t) | (with_reducible refine Good.some_ ?_; ((refine BackP.of ?_ rfl ?_ (by omega) (by omega) (by omega) hr' ?_ <;> (try unfold r8end_s) <;> (try dsimp only) <;> first | with_reducible exact he' | with_reducible assumption | ((constructor <;> (try dsimp only) <;> first | with_reducible assumption | with_reducible exact (h').a | with_reducible exact (h').b | with_reducible exact (h').d | with_reducible exact (h').i | with_reducible exact (h').j | with_reducible exact (h').n | with_reducible exact (h').t | with_reducible exact (h').l | with_reducible exact (h').ln | with_reducible exact (h').cap | exact rg_wi _ | exact tmod_rg (by omega) (by omega))) | (first | (first | with_reducible assumption | with_reducible exact rg_wi _ | (unfold Rg; omega)) | with_reducible exact (h').a | with_reducible exact (h').b | with_reducible exact (h').d | with_reducible exact (h').i | with_reducible exact (h').j | with_reducible exact (h').n | with_reducible exact (h').t) | exact rg_wi _)))
theorem backClient {ch : FrV} (h : FrR K p) (hr : RcsR K c recs) (he : EvsR K evs) (hv : Rg value) (hk : p.kind = 26) (hp : ParOk c p ch) (h12 : ch.kind = 12 → code = 3 ∨ (0 ≤ value ∧ value < (recs.length : Int))) (hc : CfgOk c) (hK : K ≤ 1000000000) : Good (r8backclient_s c recs evs p code value) fun o => BackP K c p o.1 o.2.1 o.2.2.1 o.2.2.2 := by
  have h' := h.up
  have hr' := hr.up
  have he' := he.up
  have hw : Rg c.workers := by have := hc.w1; have := hc.w2; (first | with_reducible assumption | with_reducible exact rg_wi _ | (unfold Rg; omega))
  obtain ⟨i1, i2, i3⟩ := hp.cl hk
  have hsl := hc.sl
  have hs := hc.sub _ (at_mem ⟨i1, i2⟩)
  have hs1 := hs.1
  have hT : ∀ p' : FrV, p'.kind = 26 → p'.i = p.i → TopOk c p' := fun p' e e2 => ⟨fun e' => by omega, fun _ => by omega, fun e' => by omega⟩
  unfold r8backclient_s
  refine .guard ⟨i1, i2⟩ fun _ => ?_
  refine Good.ite (fun _ => .some_ ⟨by ((constructor <;> (try dsimp only) <;> first | with_reducible assumption | with_reducible exact (h').a | with_reducible exact (h').b | with_reducible exact (h').d | with_reducible exact (h').i | with_reducible exact (h').j | with_reducible exact (h').n | with_reducible exact (h').t | with_reducible exact (h').l | with_reducible exact (h').ln | with_reducible exact (h').cap | exact rg_wi _ | exact tmod_rg (by omega) (by omega))), rfl, by show Rg 0; (first | with_reducible assumption | with_reducible exact rg_wi _ | (unfold Rg; omega)), fun _ => hT _ hk rfl, hr', he'⟩) fun _ => ?_
  refine Good.ite (fun e3 => Good.ite (fun _ => ?_) fun ec => Good.bT fun r er => ?_) fun _ => ?_
  · exact (emit_good he hK (by (first | with_reducible assumption | with_reducible exact rg_wi _ | (unfold Rg; omega))) hw (by (first | with_reducible assumption | with_reducible exact rg_wi _ | (unfold Rg; omega))) h.i (by (first | with_reducible assumption | with_reducible exact rg_wi _ | (unfold Rg; omega)))).bind fun es he2 => .some_ ⟨by ((constructor <;> (try dsimp only) <;> first | with_reducible assumption | with_reducible exact (h').a | with_reducible exact (h').b | with_reducible exact (h').d | with_reducible exact (h').i | with_reducible exact (h').j | with_reducible exact (h').n | with_reducible exact (h').t | with_reducible exact (h').l | with_reducible exact (h').ln | with_reducible exact (h').cap | exact rg_wi _ | exact tmod_rg (by omega) (by omega))), rfl, by show Rg 0; (first | with_reducible assumption | with_reducible exact rg_wi _ | (unfold Rg; omega)), fun _ => hT _ hk rfl, hr', he2⟩
  · have hx := (h12 (i3 e3)).resolve_left ec
    refine .guard hx fun _ => .some_ ⟨by ((constructor <;> (try dsimp only) <;> first | with_reducible assumption | with_reducible exact (h').a | with_reducible exact (h').b | with_reducible exact (h').d | with_reducible exact (h').i | with_reducible exact (h').j | with_reducible exact (h').n | with_reducible exact (h').t | with_reducible exact (h').l | with_reducible exact (h').ln | with_reducible exact (h').cap | exact rg_wi _ | exact tmod_rg (by omega) (by omega))), rfl, by show Rg 0; (first | with_reducible assumption | with_reducible exact rg_wi _ | (unfold Rg; omega)), fun _ => hT _ hk rfl, hr'.set ?_, he'⟩
    subst er
    exact ⟨Nat.zero_le _, fun x hx => by cases hx⟩
  refine Good.ite (fun _ => Good.ite (fun _ => ?_) fun _ => .some_ ⟨by ((constructor <;> (try dsimp only) <;> first | with_reducible assumption | with_reducible exact (h').a | with_reducible exact (h').b | with_reducible exact (h').d | with_reducible exact (h').i | with_reducible exact (h').j | with_reducible exact (h').n | with_reducible exact (h').t | with_reducible exact (h').l | with_reducible exact (h').ln | with_reducible exact (h').cap | exact rg_wi _ | exact tmod_rg (by omega) (by omega))), rfl, by show Rg 0; (first | with_reducible assumption | with_reducible exact rg_wi _ | (unfold Rg; omega)), fun _ => hT _ hk rfl, hr', he'⟩) fun _ => ?_
  · exact (emit_good he hK (by (first | with_reducible assumption | with_reducible exact rg_wi _ | (unfold Rg; omega))) hw h.n h.i hs1).bind fun es he2 => .some_ ⟨by (have h1 : Rg 1 := by (first | with_reducible assumption | with_reducible exact rg_wi _ | (unfold Rg; omega))); ((constructor <;> (try dsimp only) <;> first | with_reducible assumption | with_reducible exact (h').a | with_reducible exact (h').b | with_reducible exact (h').d | with_reducible exact (h').i | with_reducible exact (h').j | with_reducible exact (h').n | with_reducible exact (h').t | with_reducible exact (h').l | with_reducible exact (h').ln | with_reducible exact (h').cap | exact rg_wi _ | exact tmod_rg (by omega) (by omega))), rfl, by show Rg 0; (first | with_reducible assumption | with_reducible exact rg_wi _ | (unfold Rg; omega)), fun _ => hT _ hk rfl, hr', he2⟩
  have fol : BackP K c p (r8following_s c p).1 recs evs (r8following_s c p).2 := by
    have e1 : wi (p.i + 1) = p.i + 1 := wi_id (by unfold Rg; omega)
    have h0 : Rg 0 := by (first | with_reducible assumption | with_reducible exact rg_wi _ | (unfold Rg; omega))
    have hf : FrR (K + 1) ({ p with line := 1, b := 0, i := (wi (p.i + 1)) } : FrV) := by ((constructor <;> (try dsimp only) <;> first | with_reducible assumption | with_reducible exact (h').a | with_reducible exact (h').b | with_reducible exact (h').d | with_reducible exact (h').i | with_reducible exact (h').j | with_reducible exact (h').n | with_reducible exact (h').t | with_reducible exact (h').l | with_reducible exact (h').ln | with_reducible exact (h').cap | exact rg_wi _ | exact tmod_rg (by omega) (by omega)))
    unfold r8following_s
    split
    · exact ⟨hf, rfl, h0, fun e => (by cases e), hr', he'⟩
    · exact ⟨hf, rfl, h0, fun _ => ⟨fun e => by dsimp only at e; omega, fun _ => by dsimp only; rw [e1]; omega, fun e => by dsimp only at e; omega⟩, hr', he'⟩
  refine Good.ite (fun _ => Good.ite (fun _ => .some_ ⟨by ((constructor <;> (try dsimp only) <;> first | with_reducible assumption | with_reducible exact (h').a | with_reducible exact (h').b | with_reducible exact (h').d | with_reducible exact (h').i | with_reducible exact (h').j | with_reducible exact (h').n | with_reducible exact (h').t | with_reducible exact (h').l | with_reducible exact (h').ln | with_reducible exact (h').cap | exact rg_wi _ | exact tmod_rg (by omega) (by omega))), rfl, by show Rg 0; (first | with_reducible assumption | with_reducible exact rg_wi _ | (unfold Rg; omega)), fun _ => hT _ hk rfl, hr', he'⟩) fun _ => Good.bT fun r er => .some_ (by subst er; exact fol)) fun _ => Good.bT fun r er => .some_ (by subst er; exact fol)
theorem backRun {ch : FrV} (h : FrR K p) (hr : RcsR K c recs) (he : EvsR K evs) (hv : Rg value) (hk : p.kind = 24) (hp : ParOk c p ch) (hq : PcP c recs p) (h12 : ch.kind = 12 → code = 3 ∨ (0 ≤ value ∧ value < (recs.length : Int))) (hc : CfgOk c) (hK : K ≤ 1000000000) : Good (r8backrun_s c recs evs p code value) fun o => BackP K c p o.1 o.2.1 o.2.2.1 o.2.2.2 := by
  have h' := h.up
  have hr' := hr.up
  have he' := he.up
  obtain ⟨hl, hT, i5, h3⟩ := hp.run hk
  have hT2 : 0 ≤ TopL p.l ∧ TopL p.l < (recs.length : Int) := by have := hr.1; omega
  have ht : Rg (TopL p.l) := h.l _ (top_mem hl)
  have hat := hr.at hT2
  have hT' : ∀ p' : FrV, p'.kind = 24 → p'.l = p.l → p'.line ≠ 3 → p'.line ≠ 5 → TopOk c p' := fun p' e e2 e3 e5 => ⟨fun _ => ⟨by rw [e2]; exact hl, e3, e5, fun _ _ => by rw [e2]; exact hT⟩, fun e' => by omega, fun e' => by omega⟩
  have hRP : ∀ (r : ResV) (f' : FrV) (es : List Ev), EvsR (K + 1) es → RunP K c p r f' → BackP K c p r recs es f' := fun r f' es hes x => ⟨x.fr, x.kind, x.val, fun e => ⟨fun _ => x.top e, fun e' => by have := x.kind; omega, fun e' => by have := x.kind; omega⟩, hr', hes⟩
  unfold r8backrun_s
  refine (top_good hl h.ln hK).bind fun r2 e => ?_
  subst e
  refine .guard hT2 fun _ => ?_
  refine Good.ite (fun e5 => ?_) fun _ => ?_
  · obtain ⟨q, eq, hqc⟩ := hq hk e5
    obtain ⟨q', eq', hins⟩ := prog_good hr hT hc
    obtain rfl := Option.some.inj (eq'.symm.trans eq)
    have hx := hins _ (at_mem hqc)
    have hxb := hx.2.1
    rw [eq]
    refine (Good.some_ (P := fun z => z = q') rfl).bind fun z ez => ?_
    subst ez
    have hkl := hat.1
    refine .guard hqc fun _ => Good.ite (fun _ => ?_) fun ec => ?_
    · refine .guard (by omega) fun _ => .guard (by omega) fun _ => ?_
      refine (emit_good he hK (by (first | with_reducible assumption | with_reducible exact rg_wi _ | (unfold Rg; omega))) h.a ht (by (first | with_reducible assumption | with_reducible exact rg_wi _ | (unfold Rg; omega))) (by (first | with_reducible assumption | with_reducible exact rg_wi _ | (unfold Rg; omega)))).bind fun es he2 => .some_ ⟨by ((constructor <;> (try dsimp only) <;> first | with_reducible assumption | with_reducible exact (h').a | with_reducible exact (h').b | with_reducible exact (h').d | with_reducible exact (h').i | with_reducible exact (h').j | with_reducible exact (h').n | with_reducible exact (h').t | with_reducible exact (h').l | with_reducible exact (h').ln | with_reducible exact (h').cap | exact rg_wi _ | exact tmod_rg (by omega) (by omega))), rfl, by show Rg 0; (first | with_reducible assumption | with_reducible exact rg_wi _ | (unfold Rg; omega)), fun _ => hT' _ hk rfl (by show (1 : Int) ≠ 3; omega) (by show (1 : Int) ≠ 5; omega), hr'.set ⟨by simp; omega, fun x hx => ?_⟩, he2⟩
      simp at hx
      rcases hx with hx | rfl
      · exact hat.2 x hx
      · (first | with_reducible assumption | with_reducible exact rg_wi _ | (unfold Rg; omega))
    · have hval := (h12 (i5 e5)).resolve_left ec
      refine .guard (by omega) fun _ => .guard (by omega) fun _ => Good.bT fun r er => ?_
      refine .guard (by simp [st_]; omega) fun _ => .some_ ⟨by ((constructor <;> (try dsimp only) <;> first | with_reducible assumption | with_reducible exact (h').a | with_reducible exact (h').b | with_reducible exact (h').d | with_reducible exact (h').i | with_reducible exact (h').j | with_reducible exact (h').n | with_reducible exact (h').t | with_reducible exact (h').l | with_reducible exact (h').ln | with_reducible exact (h').cap | exact rg_wi _ | exact tmod_rg (by omega) (by omega))), rfl, by show Rg 0; (first | with_reducible assumption | with_reducible exact rg_wi _ | (unfold Rg; omega)), fun _ => hT' _ hk rfl (by show (6 : Int) ≠ 3; omega) (by show (6 : Int) ≠ 5; omega), RcsR.set (hr'.set ⟨by simp; omega, fun x hx => ?_⟩) ?_, he'⟩
      · simp at hx
        rcases hx with hx | rfl
        · exact hat.2 x hx
        · exact hv
      · subst er; exact ⟨Nat.zero_le _, fun x hx => by cases hx⟩
  refine Good.ite (fun _ => ?_) fun _ => ?_
  · exact (emit_good he hK (by (first | with_reducible assumption | with_reducible exact rg_wi _ | (unfold Rg; omega))) h.a h.n ht h.d).bind fun es he2 => .some_ ⟨by ((constructor <;> (try dsimp only) <;> first | with_reducible assumption | with_reducible exact (h').a | with_reducible exact (h').b | with_reducible exact (h').d | with_reducible exact (h').i | with_reducible exact (h').j | with_reducible exact (h').n | with_reducible exact (h').t | with_reducible exact (h').l | with_reducible exact (h').ln | with_reducible exact (h').cap | exact rg_wi _ | exact tmod_rg (by omega) (by omega))), rfl, by show Rg 0; (first | with_reducible assumption | with_reducible exact rg_wi _ | (unfold Rg; omega)), fun _ => hT' _ hk rfl (by show (7 : Int) ≠ 3; omega) (by show (7 : Int) ≠ 5; omega), hr', he2⟩
  refine Good.ite (fun _ => Good.ite (fun _ => .some_ ⟨by ((constructor <;> (try dsimp only) <;> first | with_reducible assumption | with_reducible exact (h').a | with_reducible exact (h').b | with_reducible exact (h').d | with_reducible exact (h').i | with_reducible exact (h').j | with_reducible exact (h').n | with_reducible exact (h').t | with_reducible exact (h').l | with_reducible exact (h').ln | with_reducible exact (h').cap | exact rg_wi _ | exact tmod_rg (by omega) (by omega))), rfl, by show Rg 0; (first | with_reducible assumption | with_reducible exact rg_wi _ | (unfold Rg; omega)), fun _ => hT' _ hk rfl (by show (9 : Int) ≠ 3; omega) (by show (9 : Int) ≠ 5; omega), hr', he'⟩) fun _ => .some_ ⟨by ((constructor <;> (try dsimp only) <;> first | with_reducible assumption | with_reducible exact (h').a | with_reducible exact (h').b | with_reducible exact (h').d | with_reducible exact (h').i | with_reducible exact (h').j | with_reducible exact (h').n | with_reducible exact (h').t | with_reducible exact (h').l | with_reducible exact (h').ln | with_reducible exact (h').cap | exact rg_wi _ | exact tmod_rg (by omega) (by omega))), rfl, by show Rg 0; (first | with_reducible assumption | with_reducible exact rg_wi _ | (unfold Rg; omega)), fun _ => hT' _ hk rfl (by show (8 : Int) ≠ 3; omega) (by show (8 : Int) ≠ 5; omega), hr', he'⟩) fun _ => ?_
  refine Good.ite (fun _ => .some_ ⟨by ((constructor <;> (try dsimp only) <;> first | with_reducible assumption | with_reducible exact (h').a | with_reducible exact (h').b | with_reducible exact (h').d | with_reducible exact (h').i | with_reducible exact (h').j | with_reducible exact (h').n | with_reducible exact (h').t | with_reducible exact (h').l | with_reducible exact (h').ln | with_reducible exact (h').cap | exact rg_wi _ | exact tmod_rg (by omega) (by omega))), rfl, by show Rg 0; (first | with_reducible assumption | with_reducible exact rg_wi _ | (unfold Rg; omega)), fun _ => hT' _ hk rfl (by show (1 : Int) ≠ 3; omega) (by show (1 : Int) ≠ 5; omega), hr', he'⟩) fun _ => ?_
  have hln := h.ln
  refine Good.ite (fun _ => Good.ite (fun _ => .guard (by omega) fun _ => .guard (by omega) fun _ => .some_ ⟨?_, rfl, by show Rg 0; (first | with_reducible assumption | with_reducible exact rg_wi _ | (unfold Rg; omega)), fun _ => ⟨fun _ => ⟨by simp, by show (1 : Int) ≠ 3; omega, by show (1 : Int) ≠ 5; omega, fun e => absurd rfl e⟩, fun e => by dsimp only at e; omega, fun e => by dsimp only at e; omega⟩, hr', he'⟩) fun _ => .some_ ⟨by ((constructor <;> (try dsimp only) <;> first | with_reducible assumption | with_reducible exact (h').a | with_reducible exact (h').b | with_reducible exact (h').d | with_reducible exact (h').i | with_reducible exact (h').j | with_reducible exact (h').n | with_reducible exact (h').t | with_reducible exact (h').l | with_reducible exact (h').ln | with_reducible exact (h').cap | exact rg_wi _ | exact tmod_rg (by omega) (by omega))), rfl, by show Rg 0; (first | with_reducible assumption | with_reducible exact rg_wi _ | (unfold Rg; omega)), fun _ => hT' _ hk rfl (by show (1 : Int) ≠ 3; omega) (by show (1 : Int) ≠ 5; omega), hr', he'⟩) fun _ => ?_
  · have ha : ∀ x ∈ ([] ++ p.l) ++ [p.n], Rg x := fun x hx => by
      simp at hx
      rcases hx with hx | rfl
      · exact h.l x hx
      · exact h.n
    have hb : (([] ++ p.l) ++ [p.n]).length ≤ K + 1 := by simp; omega
    constructor <;> dsimp only <;> first | exact ha | exact hb | exact h.cap | (first | (first | with_reducible assumption | with_reducible exact rg_wi _ | (unfold Rg; omega)) | with_reducible exact (h).a | with_reducible exact (h).b | with_reducible exact (h).d | with_reducible exact (h).i | with_reducible exact (h).j | with_reducible exact (h).n | with_reducible exact (h).t)
  refine Good.ite (fun _ => ?_) fun _ => ?_
  · exact (emit_good he hK (by (first | with_reducible assumption | with_reducible exact rg_wi _ | (unfold Rg; omega))) h.a ht (by (first | with_reducible assumption | with_reducible exact rg_wi _ | (unfold Rg; omega))) h.t).bind fun es he2 => (leave_good h hl hK).bind fun o ho => .some_ (hRP _ _ _ he2 ho)
  refine Good.ite (fun _ => Good.ite (fun _ => .some_ ⟨by ((constructor <;> (try dsimp only) <;> first | with_reducible assumption | with_reducible exact (h').a | with_reducible exact (h').b | with_reducible exact (h').d | with_reducible exact (h').i | with_reducible exact (h').j | with_reducible exact (h').n | with_reducible exact (h').t | with_reducible exact (h').l | with_reducible exact (h').ln | with_reducible exact (h').cap | exact rg_wi _ | exact tmod_rg (by omega) (by omega))), rfl, by show Rg 0; (first | with_reducible assumption | with_reducible exact rg_wi _ | (unfold Rg; omega)), fun _ => hT' _ hk rfl (by show (22 : Int) ≠ 3; omega) (by show (22 : Int) ≠ 5; omega), hr', he'⟩) fun _ => .some_ ⟨by ((constructor <;> (try dsimp only) <;> first | with_reducible assumption | with_reducible exact (h').a | with_reducible exact (h').b | with_reducible exact (h').d | with_reducible exact (h').i | with_reducible exact (h').j | with_reducible exact (h').n | with_reducible exact (h').t | with_reducible exact (h').l | with_reducible exact (h').ln | with_reducible exact (h').cap | exact rg_wi _ | exact tmod_rg (by omega) (by omega))), rfl, by show Rg 0; (first | with_reducible assumption | with_reducible exact rg_wi _ | (unfold Rg; omega)), fun _ => hT' _ hk rfl (by show (21 : Int) ≠ 3; omega) (by show (21 : Int) ≠ 5; omega), hr', he'⟩) fun _ => ?_
  refine Good.ite (fun _ => (leave_good h hl hK).bind fun o ho => .some_ (hRP _ _ _ he' ho)) fun _ => ?_
  refine Good.ite (fun _ => Good.ite (fun _ => (leave_good h hl hK).bind fun o ho => .some_ (hRP _ _ _ he' ho)) fun _ => ?_) fun _ => ?_
  · have h0 := List.length_pos_iff.2 hl
    rw [len_wi h.ln hK]
    have ha : ∀ x ∈ ([] ++ p.l.take (((p.l.length : Nat) : Int) - 1).toNat) ++ [p.n], Rg x := fun x hx => by
      simp at hx
      rcases hx with hx | rfl
      · exact h.l x (List.mem_of_mem_take hx)
      · exact h.n
    have hb : (([] ++ p.l.take (((p.l.length : Nat) : Int) - 1).toNat) ++ [p.n]).length ≤ K + 1 := by simp; omega
    refine .guard (by omega) fun _ => .guard (by simp; omega) fun _ => .guard (by simp; omega) fun _ => .some_ ⟨?_, rfl, by show Rg 0; (first | with_reducible assumption | with_reducible exact rg_wi _ | (unfold Rg; omega)), fun _ => ⟨fun _ => ⟨by simp, by show (1 : Int) ≠ 3; omega, by show (1 : Int) ≠ 5; omega, fun e => absurd rfl e⟩, fun e => by dsimp only at e; omega, fun e => by dsimp only at e; omega⟩, hr', he'⟩
    constructor <;> dsimp only <;> first | exact ha | exact hb | exact h.cap | (first | (first | with_reducible assumption | with_reducible exact rg_wi _ | (unfold Rg; omega)) | with_reducible exact (h).a | with_reducible exact (h).b | with_reducible exact (h).d | with_reducible exact (h).i | with_reducible exact (h).j | with_reducible exact (h).n | with_reducible exact (h).t)
  exact .some_ ⟨h', rfl, by show Rg 0; (first | with_reducible assumption | with_reducible exact rg_wi _ | (unfold Rg; omega)), fun _ => hT' _ hk rfl h3 (by assumption), hr', he'⟩
theorem back_good {ch : FrV} (h : FrR K p) (hr : RcsR K c recs) (he : EvsR K evs) (hv : Rg value) (hp : ParOk c p ch) (hq : PcP c recs p) (h12 : ch.kind = 12 → code = 3 ∨ (0 ≤ value ∧ value < (recs.length : Int))) (hc : CfgOk c) (hK : K ≤ 1000000000) : Good (r8back_s c recs evs p code value) fun o => BackP K c p o.1 o.2.1 o.2.2.1 o.2.2.2 := by
  have h' := h.up
  have hr' := hr.up
  have he' := he.up
  have h21 : p.kind ≠ 21 := fun e => by
    have := hp.rk
    rw [e] at this
    simp [rank] at this
  unfold r8back_s
  refine Good.ite (fun hk => ?_) fun _ => Good.ite (fun hk => ?_) fun _ => Good.ite (fun hk => ?_) fun _ => Good.ite (fun hk => ?_) fun _ => Good.ite (fun hk => ?_) fun _ => Good.ite (fun hk => ?_) fun _ => Good.ite (fun hk => ?_) fun _ => Good.ite (fun hk => ?_) fun h24 => Good.ite (fun hk => ?_) fun _ => Good.ite (fun hk => ?_) fun h26 => ?_
  case refine_4 => exact (backWalk h hr he hk hK).bind fun o ho => .some_ ho
  case refine_6 => exact Good.bT fun r e => .some_ (by subst e; exact backDrain h hr he hv hk)
  case refine_7 => exact Good.bT fun r e => .some_ (by subst e; exact backTake h hr he hv hk)
  case refine_8 => exact (backRun h hr he hv hk hp hq h12 hc hK).bind fun o ho => .some_ ho
  case refine_9 => exact (backWorker h hr he hv hk hc hK).bind fun o ho => .some_ ho
  case refine_10 => exact (backClient h hr he hv hk hp h12 hc hK).bind fun o ho => .some_ ho
  case refine_11 => exact .some_ (BackP.of h' rfl (by show Rg 0; (first | with_reducible assumption | with_reducible exact rg_wi _ | (unfold Rg; omega))) h24 h26 h21 hr' he')
  all_goals (repeat' (first | with_reducible refine Good.ite (fun _ => ?_) (fun _ => ?_) | with_reducible refine Good.bT (fun _ _ => ?_) | with_reducible refine Good.bind (mask_good _) (fun _ _ => ?_) | with_reducible refine Good.bind (bit_good _ _) (fun _ _ => ?_) | with_reducible refine Good.bind (low_good _) (fun _ _ => ?_) | with_reducible refine Good.bind (high_good _) (fun _ _ => ?_) | with_reducible refine Good.bind (unpack_good _) (fun _ _ => ?_) | with_reducible refine Good.bind (class_good _ _ _) (fun _ _ => ?_) | with_reducible refine Good.bind (emit_good he hK ?_ ?_ ?_ ?_ ?_) (fun _ _ => ?_)))
  all_goals first | (first | (first | with_reducible assumption | with_reducible exact rg_wi _ | (unfold Rg; omega)) | with_reducible exact (h).a | with_reducible exact (h).b | with_reducible exact (h).d | with_reducible exact (h).i | with_reducible exact (h).j | with_reducible exact (h).n | with_reducible exact (h).t) | (with_reducible refine Good.some_ ?_; ((refine BackP.of ?_ rfl ?_ (by omega) (by omega) (by omega) hr' ?_ <;> (try unfold r8end_s) <;> (try dsimp only) <;> first | with_reducible exact he' | with_reducible assumption | ((constructor <;> (try dsimp only) <;> first | with_reducible assumption | with_reducible exact (h').a | with_reducible exact (h').b | with_reducible exact (h').d | with_reducible exact (h').i | with_reducible exact (h').j | with_reducible exact (h').n | with_reducible exact (h').t | with_reducible exact (h').l | with_reducible exact (h').ln | with_reducible exact (h').cap | exact rg_wi _ | exact tmod_rg (by omega) (by omega))) | (first | (first | with_reducible assumption | with_reducible exact rg_wi _ | (unfold Rg; omega)) | with_reducible exact (h').a | with_reducible exact (h').b | with_reducible exact (h').d | with_reducible exact (h').i | with_reducible exact (h').j | with_reducible exact (h').n | with_reducible exact (h').t) | exact rg_wi _)))
end
end
section
open Go
structure LeafP (K : Nat) (c : Cfg) (recs : List RecV) (f : FrV) (r : ResV) (rs' : List RecV) (es' : List Ev) (f' : FrV) : Prop where
  fr : FrR (K + 1) f'
  kind : f'.kind = f.kind
  val : Rg r.value
  top : r.done = false → TopOk c f'
  rcs : RcsR (K + 1) c rs'
  es : EvsR (K + 1) es'
  new : f.kind = 12 → r.done = true ∧ rs' = recs ∧ (r.code = 3 ∨ (0 ≤ r.value ∧ r.value < (recs.length : Int)))
section
variable {K : Nat} {c : Cfg} {f : FrV} {recs : List RecV} {evs : List Ev} {m : MemV} {now draw : Int}
theorem LeafP.of {r : ResV} {rs' : List RecV} {es' : List Ev} {f' : FrV} (h : Same K f r f') (h12 : f.kind ≠ 12) (h4 : f.kind ≠ 24) (h6 : f.kind ≠ 26) (h1 : f.kind ≠ 21) (hr : RcsR (K + 1) c rs') (he : EvsR (K + 1) es') : LeafP K c recs f r rs' es' f' :=
  ⟨h.1.up, h.2.1, h.2.2.2, fun _ => topOk_of (by rw [h.2.1]; exact h4) (by rw [h.2.1]; exact h6) (fun e => absurd (h.2.1.symm.trans e) h1), hr, he, fun e => absurd e h12⟩
theorem leaf_good (h : FrR K f) (hr : RcsR K c recs) (he : EvsR K evs) (ht : LiveOk c recs f) (hn : Rg now) (hd : Rg draw) (hc : CfgOk c) (hK : K ≤ 1000000000) : Good (r8leaf_s c m now draw recs evs f) fun o => LeafP K c recs f o.1 o.2.2.1 o.2.2.2.1 o.2.2.2.2 := by
  have hr' := hr.up
  have he' := he.up
  unfold r8leaf_s
  refine Good.ite (fun hk => (push_good h).bind fun o ho => .some_ (LeafP.of ho (by omega) (by omega) (by omega) (by omega) hr' he')) fun _ => ?_
  refine Good.ite (fun hk => (pop_good h).bind fun o ho => .some_ (LeafP.of ho (by omega) (by omega) (by omega) (by omega) hr' he')) fun _ => ?_
  refine Good.ite (fun hk => (steal_good h).bind fun o ho => .some_ (LeafP.of ho (by omega) (by omega) (by omega) (by omega) hr' he')) fun _ => ?_
  refine Good.ite (fun hk => (mask_good _).bind fun _ _ => Good.bT fun _ _ => .some_ (LeafP.of ⟨h, rfl, rfl, by show Rg 0; (first | with_reducible assumption | with_reducible exact rg_wi _ | (unfold Rg; omega))⟩ (by omega) (by omega) (by omega) (by omega) hr' he')) fun _ => ?_
  refine Good.ite (fun hk => (clearbit_good h).bind fun o ho => .some_ (LeafP.of ho (by omega) (by omega) (by omega) (by omega) hr' he')) fun _ => ?_
  refine Good.ite (fun hk => Good.bT fun _ _ => Good.ite (fun _ => .some_ (LeafP.of ⟨by ((constructor <;> (try dsimp only) <;> first | with_reducible assumption | with_reducible exact (h).a | with_reducible exact (h).b | with_reducible exact (h).d | with_reducible exact (h).i | with_reducible exact (h).j | with_reducible exact (h).n | with_reducible exact (h).t | with_reducible exact (h).l | with_reducible exact (h).ln | with_reducible exact (h).cap | exact rg_wi _ | exact tmod_rg (by omega) (by omega))), rfl, rfl, by show Rg 0; (first | with_reducible assumption | with_reducible exact rg_wi _ | (unfold Rg; omega))⟩ (by omega) (by omega) (by omega) (by omega) hr' he')) fun _ => (high_good _).bind fun r hr2 => .some_ (LeafP.of ⟨by ((constructor <;> (try dsimp only) <;> first | with_reducible assumption | with_reducible exact (h).a | with_reducible exact (h).b | with_reducible exact (h).d | with_reducible exact (h).i | with_reducible exact (h).j | with_reducible exact (h).n | with_reducible exact (h).t | with_reducible exact (h).l | with_reducible exact (h).ln | with_reducible exact (h).cap | exact rg_wi _ | exact tmod_rg (by omega) (by omega))), rfl, rfl, by show Rg 0; (first | with_reducible assumption | with_reducible exact rg_wi _ | (unfold Rg; omega))⟩ (by omega) (by omega) (by omega) (by omega) hr' he')) fun _ => ?_
  refine Good.ite (fun hk => Good.bT fun _ _ => Good.ite (fun _ => .some_ (LeafP.of ⟨h, rfl, rfl, by show Rg 0; (first | with_reducible assumption | with_reducible exact rg_wi _ | (unfold Rg; omega))⟩ (by omega) (by omega) (by omega) (by omega) hr' he')) fun _ => Good.ite (fun _ => .some_ (LeafP.of ⟨h, rfl, rfl, by show Rg 0; (first | with_reducible assumption | with_reducible exact rg_wi _ | (unfold Rg; omega))⟩ (by omega) (by omega) (by omega) (by omega) hr' he')) fun _ => .some_ (LeafP.of ⟨h, rfl, rfl, by show Rg 0; (first | with_reducible assumption | with_reducible exact rg_wi _ | (unfold Rg; omega))⟩ (by omega) (by omega) (by omega) (by omega) hr' he')) fun _ => ?_
  refine Good.ite (fun hk => Good.bT fun _ _ => .some_ (LeafP.of ⟨h, rfl, rfl, by show Rg 0; (first | with_reducible assumption | with_reducible exact rg_wi _ | (unfold Rg; omega))⟩ (by omega) (by omega) (by omega) (by omega) hr' he')) fun _ => ?_
  refine Good.ite (fun hk => (insert_good h).bind fun o ho => .some_ (LeafP.of ho (by omega) (by omega) (by omega) (by omega) hr' he')) fun _ => ?_
  refine Good.ite (fun hk => (remove_good h he hK).bind fun o ho => .some_ (LeafP.of ho.1 (by omega) (by omega) (by omega) (by omega) hr' ho.2)) fun _ => ?_
  refine Good.ite (fun hk => (table_good h he hr hK).bind fun o ho => .some_ ⟨ho.same.1.up, ho.same.2.1, ho.same.2.2.2, fun _ => topOk_of (by rw [ho.same.2.1]; omega) (by rw [ho.same.2.1]; omega) (fun e => absurd (ho.same.2.1.symm.trans e) (by omega)), ho.rcs.up, ho.es, ho.new⟩) fun h12 => ?_
  refine Good.ite (fun hk => (boost_good h he hK).bind fun o ho => .some_ (LeafP.of ho.1 (by omega) (by omega) (by omega) (by omega) hr' ho.2)) fun _ => ?_
  refine Good.ite (fun hk => (sweep_good h he hK).bind fun o ho => .some_ (LeafP.of ho.1 (by omega) (by omega) (by omega) (by omega) hr' ho.2)) fun _ => ?_
  refine Good.ite (fun hk => (sleep_good h he hK hn hc).bind fun o ho => .some_ (LeafP.of ho.1 (by omega) (by omega) (by omega) (by omega) hr' ho.2)) fun _ => ?_
  refine Good.ite (fun hk => (wake_good h he hK hc).bind fun o ho => .some_ (LeafP.of ho.1 (by omega) (by omega) (by omega) (by omega) hr' ho.2)) fun _ => ?_
  refine Good.ite (fun hk => (probe_good h (ht.pr hk) hd hc).bind fun o ho => .some_ ⟨ho.1.1.up, ho.1.2.1, ho.1.2.2.2, fun e => topOk_of (by rw [ho.1.2.1]; omega) (by rw [ho.1.2.1]; omega) (fun _ => ho.2 e), hr', he', fun e => by omega⟩) fun h21 => ?_
  refine Good.ite (fun hk => Good.bT fun r er => .some_ (by subst er; exact LeafP.of (drain_good h) (by omega) (by omega) (by omega) (by omega) hr' he')) fun _ => ?_
  refine Good.ite (fun hk => ?_) fun _ => ?_
  · obtain ⟨hl, htop, hpc⟩ := ht.run hk
    exact (run_good h he hr hl htop hpc hc hK).bind fun o ho => .some_ ⟨ho.1.fr, ho.1.kind, ho.1.val, fun e => ⟨fun _ => ho.1.top e, fun e' => absurd (ho.1.kind.symm.trans e') (by omega), fun e' => absurd (ho.1.kind.symm.trans e') (by omega)⟩, ho.2.1.up, ho.2.2, fun e => by omega⟩
  refine Good.ite (fun hk => (client_good h he (ht.cl hk) hc hK).bind fun o ho => .some_ ⟨ho.1.1.up, ho.1.2.1, ho.1.2.2.2, fun e => ⟨fun e' => absurd (ho.1.2.1.symm.trans e') (by omega), fun _ => by rw [ho.2.1]; exact ht.cl hk, fun e' => absurd (ho.1.2.1.symm.trans e') (by omega)⟩, hr', ho.2.2, fun e => by omega⟩) fun _ => ?_
  exact .some_ (LeafP.of ⟨h, rfl, rfl, by show Rg 0; (first | with_reducible assumption | with_reducible exact rg_wi _ | (unfold Rg; omega))⟩ (by omega) (by omega) (by omega) (by omega) hr' he')
/-! ### The stack -/
def Par (K : Nat) (c : Cfg) : List FrV → FrV → Prop
  | [], _ => True
  | p :: ps, ch => ParOk c p ch ∧ FrR K p ∧ Par K c ps p
def Rest (p : FrV) : Prop := ¬ (p.kind = 24 ∧ p.line = 5)
theorem ParOk.ch {p a b : FrV} (h : ParOk c p a) (e : b.kind = a.kind) : ParOk c p b := ⟨by rw [e]; exact h.rk, by rw [e]; exact h.run, by rw [e]; exact h.cl⟩
theorem Par.ch {ps : List FrV} {a b : FrV} (h : Par K c ps a) (e : b.kind = a.kind) : Par K c ps b := by
  cases ps with
  | nil => trivial
  | cons p ps => exact ⟨h.1.ch e, h.2⟩
theorem FrR.le {K L : Nat} {f : FrV} (h : FrR K f) (hl : K ≤ L) : FrR L f := ⟨h.a, h.b, h.d, h.i, h.j, h.n, h.t, h.l, Nat.le_trans h.ln hl, h.cap⟩
theorem EvsR.le {K L : Nat} {e : List Ev} (h : EvsR K e) (hl : K ≤ L) : EvsR L e := ⟨Nat.le_trans h.1 hl, h.2⟩
theorem RcsR.le {K L : Nat} {e : List RecV} (h : RcsR K c e) (hl : K ≤ L) : RcsR L c e := ⟨h.1, fun r hr => ⟨Nat.le_trans (h.2 r hr).1 hl, (h.2 r hr).2⟩⟩
theorem Par.le {K L : Nat} : ∀ {ps : List FrV} {a : FrV}, Par K c ps a → K ≤ L → Par L c ps a
  | [], _, _, _ => trivial
  | _ :: _, _, h, hl => ⟨h.1, h.2.1.le hl, h.2.2.le hl⟩
theorem rank_le (k : Int) : rank k ≤ 4 := by
  unfold rank
  repeat' split
  all_goals omega
theorem Par.len : ∀ {ps : List FrV} {a : FrV}, Par K c ps a → ps.length + rank a.kind ≤ 4
  | [], a, _ => by have := rank_le a.kind; simp; omega
  | p :: ps, a, h => by
    have h1 := h.1.rk
    have h2 := h.2.2.len
    simp; omega
/-- Nobody but the parent of an allocation waits for one. -/
theorem Par.rest : ∀ {ps : List FrV} {a : FrV}, Par K c ps a → a.kind ≠ 12 → ∀ p ∈ ps, Rest p
  | [], _, _, _, p, hp => by cases hp
  | q :: ps, a, h, ha, p, hp => by
    rcases List.mem_cons.1 hp with rfl | hp
    · exact fun e => ha ((h.1.run e.1).2.2.1 e.2)
    · refine h.2.2.rest (fun e => ?_) p hp
      have := h.1.rk
      rw [e] at this
      simp [rank] at this
theorem Rest.pc {p : FrV} (h : Rest p) : PcP c recs p := fun e1 e2 => absurd ⟨e1, e2⟩ h
theorem last_wi {a : List FrV} {t : FrV} (h : a.length ≤ 1000) : wi ((((a ++ [t]).length : Nat) : Int) - 1) = (a.length : Int) := by
  rw [wi_id (by unfold Rg; simp; omega)]; simp
theorem last_at {a : List FrV} {t : FrV} : at_ (a ++ [t]) (a.length : Int) = t := by simp [at_]
theorem last_st {a : List FrV} {t g : FrV} : st_ (a ++ [t]) (a.length : Int) g = a ++ [g] := by simp [st_]
theorem last_take {a : List FrV} {t : FrV} : (a ++ [t]).take ((a.length : Int)).toNat = a := by simp
/-- The stack while a step looks for its line. -/
structure DeepP (K : Nat) (c : Cfg) (recs : List RecV) (x : MaV) (ps : List FrV) (top : FrV) : Prop where
  eq : x.f = ps.reverse ++ [top]
  fr : FrR K top
  par : Par K c ps top
  pc : ∀ p ∈ ps, PcP c recs p
theorem l1_good (hr : RcsR K c recs) (hc : CfgOk c) (hK : K ≤ 1000000000) (hK1 : 1 ≤ K) : ∀ (k : Nat) (x : MaV) (ps : List FrV) (top : FrV), DeepP K c recs x ps top → TopOk c top → rank top.kind < k → Good (r8step_l1 c recs k x) fun z => ∃ ps top, DeepP K c recs z ps top ∧ LiveOk c recs top
  | 0, _, _, _, _, _, h => by omega
  | k + 1, x, ps, top, hx, ht, hk => by
    have hlen := hx.par.len
    have hl1 : ps.reverse.length ≤ 1000 := by simp; omega
    rw [r8step_l1, hx.eq, last_wi hl1, last_at]
    refine .guard (by simp; omega) fun _ => (enter_good hx.fr hr ht hc hK hK1).bind fun o ho => Good.ite (fun hn => ?_) fun hy => .guard (by simp; omega) fun _ => ?_
    · rw [last_st]
      exact .some_ ⟨ps, o.2.2, ⟨rfl, ho.fr, hx.par.ch ho.kind, hx.pc⟩, ho.no (by simpa using hn)⟩
    · rw [last_st]
      obtain ⟨h1, h2, h3, h4⟩ := ho.yes (by simpa using hy)
      refine l1_good hr hc hK hK1 k _ (o.2.2 :: ps) ({ o.1 with line := 1 } : FrV) ⟨by simp, h1, ⟨h3.ch rfl, ho.fr, hx.par.ch ho.kind⟩, fun p hp => ?_⟩ h2 ?_
      · rcases List.mem_cons.1 hp with rfl | hp
        · exact h4
        · exact hx.pc p hp
      · have h5 := h3.rk
        rw [ho.kind] at h5
        show rank o.1.kind < k
        omega
/-- A machine that rests. -/
def MaOk (K : Nat) (c : Cfg) (x : MaV) : Prop := x.over = true ∨ ∃ ps top, x.f = ps.reverse ++ [top] ∧ FrR K top ∧ TopOk c top ∧ Par K c ps top ∧ ∀ p ∈ ps, Rest p
theorem MaOk.le {K L : Nat} {x : MaV} (h : MaOk K c x) (hl : K ≤ L) : MaOk L c x := h.imp id fun ⟨ps, top, h1, h2, h3, h4, h5⟩ => ⟨ps, top, h1, h2.le hl, h3, h4.le hl, h5⟩
/-- What the way back leaves. -/
def OutP (K : Nat) (c : Cfg) (z : (Bool × MaV × MemV × (List RecV) × (List Ev)) ⊕ (Bool × ResV × (List Ev) × (List RecV) × MaV)) : Prop := match z with
  | .inl o => MaOk K c o.2.1 ∧ RcsR K c o.2.2.2.1 ∧ EvsR K o.2.2.2.2
  | .inr y => MaOk K c y.2.2.2.2 ∧ RcsR K c y.2.2.2.1 ∧ EvsR K y.2.2.1
theorem l2_good (r90 : ResV × MemV × (List RecV) × (List Ev) × FrV) (hc : CfgOk c) : ∀ (k : Nat) (ps : List FrV) (top : FrV) (L : Nat) (y : Bool × ResV × (List Ev) × (List RecV) × MaV), ps.length < k → L + ps.length ≤ 999999000 →
    DeepP L c y.2.2.2.1 y.2.2.2.2 ps top → RcsR L c y.2.2.2.1 → EvsR L y.2.2.1 → Rg y.2.1.value → (y.2.1.done = false → TopOk c top ∧ ∀ p ∈ ps, Rest p) → (top.kind = 12 → y.2.1.code = 3 ∨ (0 ≤ y.2.1.value ∧ y.2.1.value < (y.2.2.2.1.length : Int))) →
    Good (r8step_l2 c r90 k y) (OutP (L + ps.length) c)
  | 0, _, _, _, _, h, _, _, _, _, _, _, _ => by omega
  | k + 1, ps, top, L, y, hk, hL, hx, hr, he, hv, ht, h12 => by
    have hlen := hx.par.len
    have hl1 : ps.reverse.length ≤ 1000 := by simp; omega
    rw [r8step_l2]
    refine Good.ite (fun hd => ?_) fun hd => .some_ ⟨.inr ⟨ps, top, hx.eq, hx.fr.le (Nat.le_add_right _ _), (ht (by simpa using hd)).1, hx.par.le (Nat.le_add_right _ _), (ht (by simpa using hd)).2⟩, hr.le (Nat.le_add_right _ _), he.le (Nat.le_add_right _ _)⟩
    rw [hx.eq, last_wi hl1, last_take]
    refine .guard (by simp; omega) fun _ => ?_
    cases ps with
    | nil => exact Good.ite (fun _ => .some_ ⟨.inl rfl, hr.le (Nat.le_add_right _ _), he.le (Nat.le_add_right _ _)⟩) fun e => absurd rfl e
    | cons p ps =>
      have hl2 : ps.reverse.length ≤ 1000 := by simp at hl1 ⊢; omega
      refine Good.ite (fun e => by simp at e; omega) fun _ => ?_
      rw [List.reverse_cons, last_wi hl2, last_at]
      refine .guard (by simp; omega) fun _ => ?_
      refine (back_good hx.par.2.1 hr he hv hx.par.1 (hx.pc p (List.mem_cons_self ..)) h12 hc (by omega)).bind fun o ho => ?_
      have hpk : p.kind ≠ 12 := fun e => by
        have := hx.par.1.rk
        rw [e] at this
        simp [rank] at this
      have hrest := hx.par.2.2.rest hpk
      have hg := l2_good r90 hc k ps o.2.2.2 (L + 1) (y.1, o.1, o.2.2.1, o.2.1, ({ y.2.2.2.2 with f := ps.reverse ++ [o.2.2.2] } : MaV)) (by simp at hk; omega) (by simp at hL; omega)
        ⟨rfl, ho.fr, (hx.par.2.2.le (Nat.le_succ _)).ch ho.kind, fun q hq => (hrest q hq).pc⟩ ho.rcs ho.es ho.val (fun e => ⟨ho.top e, hrest⟩) (fun e => absurd (ho.kind.symm.trans e) hpk)
      rw [last_st]
      rw [show L + (p :: ps).length = L + 1 + ps.length by simp; omega]
      exact hg
theorem step_good {x : MaV} (hx : MaOk K c x) (hr : RcsR K c recs) (he : EvsR K evs) (hn : Rg now) (hd : Rg draw) (hc : CfgOk c) (hK : K ≤ 900000000) (hK1 : 1 ≤ K) : Good (r8step_s x c m now draw recs evs) fun o => MaOk (K + 5) c o.2.1 ∧ RcsR (K + 5) c o.2.2.2.1 ∧ EvsR (K + 5) o.2.2.2.2 := by
  unfold r8step_s
  refine Good.ite (fun _ => .some_ ⟨hx.le (by omega), hr.le (by omega), he.le (by omega)⟩) fun hov => ?_
  obtain ⟨ps, top, e1, e2, e3, e4, e5⟩ := hx.resolve_left hov
  refine (l1_good hr hc (by omega) hK1 100 x ps top ⟨e1, e2, e4, fun p hp => (e5 p hp).pc⟩ e3 (by have := rank_le top.kind; omega)).bind fun z hz => ?_
  clear e1 e2 e3 e4 e5 top ps
  obtain ⟨ps, top, hz, hlive⟩ := hz
  have hlen := hz.par.len
  have hl1 : ps.reverse.length ≤ 1000 := by simp; omega
  rw [hz.eq, last_wi hl1, last_at]
  refine .guard (by simp; omega) fun _ => (leaf_good hz.fr hr he hlive hn hd hc (by omega)).bind fun o ho => ?_
  rw [last_st]
  have hpc : ∀ p ∈ ps, PcP c o.2.2.1 p := fun p hp => by
    by_cases h12 : top.kind = 12
    · rw [(ho.new h12).2.1]; exact hz.pc p hp
    · exact (hz.par.rest h12 p hp).pc
  have hlen2 : (o.2.2.1.length : Int) = (recs.length : Int) := by have := ho.rcs.1; have := hr.1; omega
  refine (l2_good o hc 100 ps o.2.2.2.2 (K + 1) (false, o.1, o.2.2.2.1, o.2.2.1, ({ z with f := ps.reverse ++ [o.2.2.2.2] } : MaV)) (by omega) (by omega)
    ⟨rfl, ho.fr, (hz.par.le (Nat.le_succ _)).ch ho.kind, hpc⟩ ho.rcs ho.es ho.val (fun e => ⟨ho.top e, fun p hp => ?_⟩) (fun e => ?_)).bind fun w hw => ?_
  · refine hz.par.rest (fun h12 => ?_) p hp
    have := (ho.new h12).1
    rw [show o.1.done = false from e] at this
    cases this
  · have := (ho.new (ho.kind.symm.trans e)).2.2
    show o.1.code = 3 ∨ (0 ≤ o.1.value ∧ o.1.value < (o.2.2.1.length : Int))
    omega
  have hKK : K + 1 + ps.length ≤ K + 5 := by omega
  refine Good.sK (fun a e => ?_) fun b e => .some_ ?_
  · subst e; exact ⟨hw.1.le hKK, hw.2.1.le hKK, hw.2.2.le hKK⟩
  · subst e; exact ⟨hw.1.le hKK, hw.2.1.le hKK, hw.2.2.le hKK⟩
end
end
section
open Go
structure EngP (K : Nat) (c : Cfg) (now draw : Int) (recs : List RecV) (evs : List Ev) (ms : List MaV) (stamps : List Int) : Prop where
  nw : Rg now
  dr : Rg draw
  rcs : RcsR K c recs
  es : EvsR K evs
  ma : ∀ x ∈ ms, MaOk K c x
  n1 : 1 ≤ ms.length
  n2 : ms.length ≤ 100
  st : evs.length ≤ stamps.length
section
variable {K : Nat} {c : Cfg} {m : MemV} {now draw entries : Int} {recs : List RecV} {evs : List Ev} {ms : List MaV} {stamps : List Int} {last : AccV}
theorem EngP.le {L : Nat} (h : EngP K c now draw recs evs ms stamps) (hl : K ≤ L) : EngP L c now draw recs evs ms stamps := ⟨h.nw, h.dr, h.rcs.le hl, h.es.le hl, fun x hx => (h.ma x hx).le hl, h.n1, h.n2, h.st⟩
theorem l3_good (z : Int × (List Ev) × MemV × (List MaV) × Int × (List RecV)) (hz : z.2.1.length ≤ 990000) : ∀ (k : Nat) (y : List Int), 1 ≤ k → z.2.1.length < y.length + k → Good (x28do_l3 entries z k y) fun o => z.2.1.length ≤ o.length
  | 0, y, h, _ => by omega
  | k + 1, y, _, h => by
    rw [x28do_l3]
    refine Good.ite (fun h1 => .guard (by omega) fun _ => l3_good z hz k _ (by omega) (by simp; omega)) fun h1 => .some_ (by omega)
theorem do_good {v : EntV} (h : EngP K c now draw recs evs ms stamps) (hv : Rg v.value) (hc : CfgOk c) (hK : K ≤ 900000) (hK1 : 1 ≤ K) : Good (x28do_s c m now draw recs evs ms entries stamps last v) fun o => EngP (K + 5) c o.2.1 o.2.2.1 o.2.2.2.1 o.2.2.2.2.1 o.2.2.2.2.2.1 o.2.2.2.2.2.2.2.1 := by
  have b1 : Good (x28do_b1 c m now draw recs evs ms v) fun z => Rg z.2.2.2.2.1 ∧ Rg z.1 ∧ RcsR (K + 5) c z.2.2.2.2.2 ∧ EvsR (K + 5) z.2.1 ∧ (∀ x ∈ z.2.2.2.1, MaOk (K + 5) c x) ∧ z.2.2.2.1.length = ms.length := by
    have hr := h.rcs.le (Nat.le_add_right K 5)
    have he := h.es.le (Nat.le_add_right K 5)
    have hm : ∀ x ∈ ms, MaOk (K + 5) c x := fun x hx => (h.ma x hx).le (Nat.le_add_right K 5)
    have n1 := h.n1
    have n2 := h.n2
    unfold x28do_b1
    refine Good.ite (fun _ => ?_) fun _ => Good.ite (fun _ => .some_ ⟨rg_wi _, h.dr, hr, he, hm, rfl⟩) fun _ => Good.ite (fun _ => .some_ ⟨h.nw, hv, hr, he, hm, rfl⟩) fun _ => .some_ ⟨h.nw, h.dr, hr, he, hm, rfl⟩
    refine (draw_good v.value (ms.length : Int) hv (by unfold Rg; omega)).bind fun r hr4 => ?_
    have hi : 0 ≤ r ∧ r < (ms.length : Int) := ⟨hr4.2.1, hr4.2.2 (by omega)⟩
    refine .guard hi fun _ => (step_good (h.ma _ (at_mem hi)) h.rcs h.es h.nw h.dr hc (by omega) hK1).bind fun o ho => .some_ ⟨h.nw, h.dr, ho.2.1, ho.2.2, fun x hx => ?_, by simp [st_]⟩
    rcases mem_set hx with e | hx
    · rw [e]; exact ho.1
    · exact hm x hx
  unfold x28do_s
  refine b1.bind fun z hz => ?_
  have b2 : Good (x28do_b2 m z) fun _ => True := by
    unfold x28do_b2
    exact Good.ite (fun _ => .some_ trivial) fun _ => .some_ trivial
  refine b2.bind fun a _ => ?_
  have hl := hz.2.2.2.1.1
  refine (l3_good z (by omega) 1000000 stamps (by omega) (by omega)).bind fun s hs => .some_ ⟨hz.1, hz.2.1, hz.2.2.1, hz.2.2.2.1, hz.2.2.2.2.1, ?_, ?_, hs⟩
  · show 1 ≤ z.2.2.2.1.length
    rw [hz.2.2.2.2.2]; exact h.n1
  · show z.2.2.2.1.length ≤ 100
    rw [hz.2.2.2.2.2]; exact h.n2
theorem runl_good {es : List EntV} (hes : ∀ e ∈ es, Rg e.value) (hc : CfgOk c) (hl : es.length ≤ 1000000) : ∀ (k : Nat) (i : Nat) (K : Nat) (y : Int × Int × (List Ev) × AccV × MemV × (List MaV) × Int × (List RecV) × (List Int) × Int), y.1 = (i : Int) → i ≤ es.length → es.length < i + k → 1 ≤ K → K + 5 * (es.length - i) ≤ 900000 →
    EngP K c y.2.2.2.2.2.2.1 y.2.1 y.2.2.2.2.2.2.2.1 y.2.2.1 y.2.2.2.2.2.1 y.2.2.2.2.2.2.2.2.1 →
    Good (x28run_l1 c es k y) fun z => EngP (K + 5 * (es.length - i)) c z.2.2.2.2.2.2.1 z.2.1 z.2.2.2.2.2.2.2.1 z.2.2.1 z.2.2.2.2.2.1 z.2.2.2.2.2.2.2.2.1
  | 0, i, K, y, _, h1, h2, _, _, _ => by omega
  | k + 1, i, K, y, hi, h1, h2, hK1, hK, h => by
    rw [x28run_l1]
    refine Good.ite (fun hlt => ?_) fun _ => .some_ (h.le (by omega))
    have hin : 0 ≤ y.1 ∧ y.1 < (es.length : Int) := by omega
    refine .guard hin fun _ => (do_good h (hes _ (at_mem hin)) hc (by omega) hK1).bind fun o ho => ?_
    have e : wi (y.1 + 1) = ((i + 1 : Nat) : Int) := by rw [wi_id (by unfold Rg; omega)]; omega
    rw [show K + 5 * (es.length - i) = K + 5 + 5 * (es.length - (i + 1)) by omega]
    exact runl_good hes hc hl k (i + 1) (K + 5) _ e (by omega) (by omega) (by omega) (by omega) ho
theorem run_good' {es : List EntV} (h : EngP K c now draw recs evs ms stamps) (hes : ∀ e ∈ es, Rg e.value) (hc : CfgOk c) (hl : es.length ≤ 1000000) (hK1 : 1 ≤ K) (hK : K + 5 * es.length ≤ 900000) :
    Good (x28run_s c m now draw recs evs ms entries stamps last es) fun o => EngP (K + 5 * es.length) c o.2.1 o.2.2.1 o.2.2.2.1 o.2.2.2.2.1 o.2.2.2.2.2.1 o.2.2.2.2.2.2.2.1 := by
  unfold x28run_s
  exact (runl_good hes hc hl (es.length + 1) 0 K (0, draw, evs, last, m, ms, now, recs, stamps, entries) rfl (by omega) (by omega) hK1 (by simpa using hK) h).bind fun z hz => .some_ hz
theorem newl_good (hc : CfgOk c) : ∀ (k : Nat) (y : Int × List RecV), y.1 = (y.2.length : Int) → y.1 ≤ c.tasks → c.tasks < y.1 + k → (∀ r ∈ y.2, r.kids = []) → Good (r8new_l1 c k y) fun z => (z.2.length : Int) = c.tasks ∧ ∀ r ∈ z.2, r.kids = []
  | 0, y, _, h1, h2, _ => by omega
  | k + 1, y, h0, h1, h2, hk => by
    have := hc.t2
    rw [r8new_l1]
    refine Good.ite (fun hlt => Good.bT fun r er => .guard (by show ((y.2.length + 1 : Nat) : Int) < 100000000000; omega) fun _ => ?_) fun hlt => .some_ ⟨by dsimp only; omega, hk⟩
    have e : wi (y.1 + 1) = y.1 + 1 := wi_id (by unfold Rg; omega)
    refine newl_good hc k _ (by dsimp only; rw [e]; simp; omega) (by dsimp only; rw [e]; omega) (by dsimp only; rw [e]; omega) fun x hx => ?_
    rcases List.mem_append.1 hx with hx | hx
    · exact hk x hx
    · rw [List.mem_singleton] at hx; subst hx; subst er; rfl
theorem mnew_good (hc : CfgOk c) : ∀ (k : Nat) (y : Int × List MaV), y.1 = (y.2.length : Int) → y.1 ≤ c.workers → c.workers < y.1 + k → (∀ x ∈ y.2, MaOk 1 c x) → Good (x28new_l1 c k y) fun z => (z.2.length : Int) = c.workers ∧ ∀ x ∈ z.2, MaOk 1 c x
  | 0, y, _, h1, h2, _ => by omega
  | k + 1, y, h0, h1, h2, hk => by
    have := hc.w2
    have ht1 := hc.t1
    have ht2 := hc.t2
    rw [x28new_l1]
    refine Good.ite (fun hlt => .guard (by omega) fun _ => Good.bT fun r er => .guard (by show ((y.2.length + 1 : Nat) : Int) < 100000000000; omega) fun _ => ?_) fun hlt => .some_ ⟨by dsimp only; omega, hk⟩
    have e : wi (y.1 + 1) = y.1 + 1 := wi_id (by unfold Rg; omega)
    have h0r : Rg 0 := by (first | with_reducible assumption | with_reducible exact rg_wi _ | (unfold Rg; omega))
    have hy : Rg y.1 := by unfold Rg; omega
    have htm : Rg (Int.tmod y.1 c.tasks) := tmod_rg (by omega) (by omega)
    refine mnew_good hc k _ (by dsimp only; rw [e]; simp; omega) (by dsimp only; rw [e]; omega) (by dsimp only; rw [e]; omega) fun x hx => ?_
    rcases List.mem_append.1 hx with hx | hx
    · exact hk x hx
    · rw [List.mem_singleton] at hx; subst hx; subst er
      refine .inr ⟨[], _, rfl, ?_, ?_, trivial, fun p hp => by cases hp⟩
      · constructor <;> dsimp only <;> first | exact h0r | exact hy | exact htm | (intro x hx; cases hx; done) | exact Nat.zero_le _ | omega
      · exact topOk_of (by dsimp only; omega) (by dsimp only; omega) (fun e => by dsimp only at e; omega)
theorem new_good (hc : CfgOk c) : Good (x28new_s c) fun o => EngP 1 c 0 0 o.2.1 [] o.2.2 [] := by
  have h0r : Rg 0 := by (first | with_reducible assumption | with_reducible exact rg_wi _ | (unfold Rg; omega))
  have w1 := hc.w1
  have w2 := hc.w2
  have ht1 := hc.t1
  unfold x28new_s
  have hn : Good (r8new_s c) fun o => (o.2.length : Int) = c.tasks ∧ ∀ r ∈ o.2, r.kids = [] := by
    unfold r8new_s
    exact Good.bT fun r _ => (newl_good hc (c.tasks.toNat + 1) (0, []) rfl (by omega) (by omega) (fun r hr => by cases hr)).bind fun z hz => .some_ hz
  refine hn.bind fun o ho => (mnew_good hc (c.workers.toNat + 1) (0, []) rfl (by omega) (by omega) (fun r hr => by cases hr)).bind fun z hz => Good.bT fun r er => .guard (by have := hz.1; omega) fun _ => .some_ ?_
  refine ⟨h0r, h0r, ⟨ho.1, fun r hr => by rw [ho.2 r hr]; exact ⟨Nat.zero_le _, fun x hx => by cases hx⟩⟩, ⟨Nat.zero_le _, fun e he => by cases he⟩, fun x hx => ?_, ?_, ?_, Nat.le_refl _⟩
  · rcases List.mem_append.1 hx with hx | hx
    · exact hz.2 x hx
    · rw [List.mem_singleton] at hx; subst hx; subst er
      refine .inr ⟨[], _, rfl, ?_, ?_, trivial, fun p hp => by cases hp⟩
      · constructor <;> dsimp only <;> first | exact h0r | (intro x hx; cases hx; done) | exact Nat.zero_le _ | omega
      · exact ⟨fun e => by dsimp only at e; omega, fun _ => by dsimp only; omega, fun e => by dsimp only at e; omega⟩
  · show 1 ≤ (z.2 ++ [r]).length
    simp
  · show (z.2 ++ [r]).length ≤ 100
    have := hz.1
    simp; omega
theorem evl_good (hst : evs.length ≤ stamps.length) (hl : evs.length ≤ 990000) : ∀ (k : Nat) (y : List St × Int), y.2 = (y.1.length : Int) → y.1.length ≤ evs.length → evs.length < y.1.length + k → (∀ s ∈ y.1, s.ev ∈ evs) → Good (x28events_l1 evs stamps k y) fun z => z.1.length = evs.length ∧ ∀ s ∈ z.1, s.ev ∈ evs
  | 0, y, _, h1, h2, _ => by omega
  | k + 1, y, h0, h1, h2, hk => by
    rw [x28events_l1]
    refine Good.ite (fun hlt => .guard (by omega) fun _ => .guard (by omega) fun hi => .guard (by show ((y.1.length + 1 : Nat) : Int) < 100000000000; omega) fun _ => ?_) fun hlt => .some_ ⟨by dsimp only; omega, hk⟩
    have e : wi (y.2 + 1) = y.2 + 1 := wi_id (by unfold Rg; omega)
    refine evl_good hst hl k _ (by dsimp only; rw [e]; simp; omega) (by simp; omega) (by simp; omega) fun s hs => ?_
    rcases List.mem_append.1 hs with hs | hs
    · exact hk s hs
    · rw [List.mem_singleton] at hs; subst hs; exact at_mem hi
theorem events_good (hst : evs.length ≤ stamps.length) (hl : evs.length ≤ 990000) : Good (x28events_s evs stamps) fun o => o.length = evs.length ∧ ∀ s ∈ o, s.ev ∈ evs := by
  unfold x28events_s
  exact (evl_good hst hl (evs.length + 1) ([], 0) rfl (Nat.zero_le _) (by simp) (fun s hs => by cases hs)).bind fun z hz => .some_ hz
end
end
end Go.Proofs.YtpbkelpokpglaaaGreat
