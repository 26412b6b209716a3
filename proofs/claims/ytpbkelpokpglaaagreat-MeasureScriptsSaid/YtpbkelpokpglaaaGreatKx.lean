/- The configuration that is decoded, held to be read by many: its programs' slices are known. What the laws call: Short, a configuration to be read, the law's own checks. Law 35: agree and awake, as calls of the walk. Law 35: MeasureScripts. -/
import Derived.Test.YtpbkelpokpglaaaGreatKj
import Derived.Test.YtpbkelpokpglaaaGreatKeep2
import Derived.Test.YtpbkelpokpglaaaGreatKw
import Derived.Test.YtpbkelpokpglaaaGreatKeep1
import Derived.Test.YtpbkelpokpglaaaGreatLaw1
import Derived.Test.YtpbkelpokpglaaaGreatLaw2
import Derived.Test.YtpbkelpokpglaaaGreatKv
import Derived.Test.YtpbkelpokpglaaaGreatKk
set_option linter.all false
namespace Go.Proofs.YtpbkelpokpglaaaGreat
section
open Go Go.RowKit
theorem sl_readsG {α : Type} {enc : α → List Value} {sz : Nat} (hsz : 0 < sz) (henc : ∀ x, (enc x).length = sz) {w u : World} {base n : Nat} {e : TypeId} {v : Value} {xs : List α} (h : w.ownsRow base e sz v xs.length (xs.flatMap enc)) (hl : xs.length ≤ 9223372036854775807) (hn : n ≤ base) :
    ∃ A cap, v = .slice A xs.length cap ∧ ∀ u, Reads n w u → Sl enc sz u u.heap.size A xs := by
  rcases h.2 with ⟨rfl, h0⟩ | ⟨g, cap, cur, rfl, hb, hg, _⟩
  · have : xs = [] := List.eq_nil_of_length_eq_zero h0
    subst this
    exact ⟨none, 0, rfl, fun _ _ => Sl.nil⟩
  · refine ⟨_, _, rfl, fun u hr => ?_⟩
    have key : ∀ (i : Nat) x, xs[i]? = some x → ∀ (j : Nat) y, (enc x)[j]? = some y → u.cell? ⟨g, i * sz + j, none⟩ = some y := fun i x hx j y hy => by
      have := h.cells (g := g) rfl (i * sz + j) y (flat_get henc xs i x hx j y hy)
      rw [addr_add] at this
      exact hr _ _ _ (Nat.le_trans hn hb) this
    refine ⟨hl, fun hne => ⟨g, 0, rfl, ?_, fun i x hx j y hy => by rw [Nat.zero_add]; exact key i x hx j y hy⟩⟩
    cases xs with
    | nil => exact absurd rfl hne
    | cons x xs =>
      cases hy : enc x with
      | nil => have := henc x; rw [hy] at this; simp at this; omega
      | cons y ys => exact lt_of_cell (key 0 x rfl 0 y (by rw [hy]; rfl))
def slAt : Value → Option Addr × Nat
  | .slice A _ c => (A, c)
  | _ => (none, 0)
theorem CfgOwn.readsP {w : World} {base n : Nat} {C : Cfg} {l : CfgAt} (h : CfgOwn w base C l) (hn : n ≤ base) : ∃ pl, ∀ u, Reads n w u → CfgP u C l pl := by
  obtain ⟨vs, h1, h2, h3, hl, hl2, hl3⟩ := h
  obtain ⟨A2, c2, e2, h5⟩ := sl_readsG (u := w) (by decide) (fun x => by cases x; rfl) h3 (by omega) hn
  injection e2 with e2 _ _
  rw [← e2] at h5
  have hvl : vs.length = C.progs.length := h2.1
  refine ⟨vs.map slAt, fun u hr => ⟨⟨by omega, by simp [hvl], fun i p a hp ha => ?_⟩, h5 u hr⟩⟩
  obtain ⟨y, g1, g2⟩ := h2.2 i p hp
  rw [List.getElem?_map, g1] at ha
  obtain rfl := Option.some.inj ha
  obtain ⟨A, c, rfl, hs⟩ := sl_readsG (u := w) (by decide) (fun x => by cases x; rfl) g2 (by have := hl2 p (List.mem_of_getElem? hp); omega) hn
  rcases h1.2 with ⟨e1, h0⟩ | ⟨g, cap, cur, e1, hb, hg, _⟩
  · have : C.progs = [] := List.eq_nil_of_length_eq_zero h0
    rw [this] at hp; cases hp
  · injection e1 with e1 _ _
    have hc := h1.cells (g := g) (by rw [e1]; rfl) i _ g1
    rw [addr_add] at hc
    have hc' := hr _ _ _ (Nat.le_trans hn hb) hc
    exact ⟨g, 0, e1, lt_of_cell hc', by rw [Nat.zero_add]; exact hc', hs u hr⟩
section
variable {P : Program} {n B : Nat} {W : World} {R R' : RList} {L L' M : List SProp} {v : Value} {x y z : Operand} {w w' : World} {Φ : World → Prop}
  {d : Option Tmp} {ty : TypeId} {ps : String} {af : Array Edge} {g : Option (Nat × Bool)} {T T' : TypeId}
theorem Sat.addLook {w0 : World} (s : Sat B w0 L) (hB : B ≤ w0.heap.size) (hb : Below w0.heap.size w0 w') (hΦ : ∀ u, Reads w0.heap.size w' u → Φ u) : Sat B w' (lookS Φ :: L) := by
  obtain ⟨h, H, hL⟩ := s
  have hfar : ∀ b o, w0.heap.size ≤ b → h b o = none := fun b o hle => by
    cases e : h b o with
    | none => rfl
    | some x => exact absurd (H _ _ _ e).2.lt (by omega)
  refine ⟨join (fun b o => if w0.heap.size ≤ b then (w'.cell? ⟨b, o, none⟩).map .look else none) h, ?_, _, h, ?_, rfl, ⟨fun b o => if w0.heap.size ≤ b then (w'.cell? ⟨b, o, none⟩).map .look else none, ?_, ?_⟩, hL⟩
  · intro b o x hx
    unfold join at hx
    by_cases hc : w0.heap.size ≤ b
    · simp only [if_pos hc, hfar b o hc] at hx
      cases hv : w'.cell? ⟨b, o, none⟩ with
      | none => rw [hv] at hx; cases hx
      | some v =>
        rw [hv] at hx
        obtain rfl := Option.some.inj hx
        exact ⟨Nat.le_trans hB hc, hv⟩
    · simp only [if_neg hc] at hx
      have h2 := H b o x hx
      exact ⟨h2.1, h2.2.same (hb.block _ h2.2.lt)⟩
  · intro b o
    by_cases hc : w0.heap.size ≤ b
    · exact .inr (.inl (hfar b o hc))
    · left; simp [hc]
  · intro b o x hx
    refine ⟨?_, hx⟩
    simp only [] at hx
    split at hx
    · cases hv : w'.cell? ⟨b, o, none⟩ with
      | none => rw [hv] at hx; cases hx
      | some v => rw [hv] at hx; exact ⟨v, (Option.some.inj hx).symm⟩
    · cases hx
  · intro u hu
    refine hΦ u fun b o v hle hv => ?_
    exact hu b o (.look v) (by simp [hle, hv])
theorem ot_config {xs : List Operand} {ts : Array TypeId} {A : Option Addr} {cap : Nat} {bs : List Nat} (hxs : EvalRs R xs [.slice A bs.length cap]) (hS : RdL B W L encByte 1 A bs) (hwf : BytesWf bs) :
    OT Tryz.prog n B W ⟨d, .call ⟨.value (.func 8), xs.toArray, ts⟩, ty, ps, af, g⟩ R L (X := CfgAt × List (Option Addr × Nat)) (fun x => .agg #[.int .i64 (decode bs).workers, .int .i64 (decode bs).levels, .int .i64 (decode bs).classes, .int .i64 (decode bs).tasks, .int .i64 (decode bs).deque, .int .i64 (decode bs).heap, .int .i64 (decode bs).batch, .int .i64 (decode bs).age, .int .i64 (decode bs).patience, .slice x.1.pa (decode bs).progs.length x.1.pc, .slice x.1.sa (decode bs).subs.length x.1.sc]) (fun x => cfgL (decode bs) x.1 x.2 :: L) := fun a w s => by
  rw [op_call (fst := #[]) (cap := #[]) (EvalR.func.eval s.regs) (by kernel_rfl) (hxs.eval s.regs)]
  show Calls Tryz.prog _ _ w _
  have e : (#[] ++ [Value.slice A bs.length cap].toArray ++ #[] : Array Value) = #[.slice A bs.length cap] := by simp
  rw [e]
  refine (config_own A cap bs w (hS w s.cls) hwf).mono ?_
  rintro e w' ⟨⟨l, h1, h2⟩, hb⟩
  obtain ⟨pl, hpl⟩ := h2.readsP (n := w.heap.size) (Nat.le_succ _)
  exact ⟨(l, pl), h1, s.below.trans (hb.mono s.lo), Nat.le_trans s.lo hb.size, s.sat.addLook s.lo hb hpl⟩
end
end
section
open Go Go.RowKit
def shortL (n : Nat) (ms : List Nat) : Bool := ms.all (fun m => decide (m ≤ 400)) && decide (n ≤ 400)
theorem cfgP_in {u : World} {c : Cfg} {l : CfgAt} {pl : List (Option Addr × Nat)} (h : CfgP u c l pl) : CfgIn u u.heap.size c l := by
  obtain ⟨⟨h1, h2, h3⟩, h4⟩ := h
  refine ⟨⟨h1, fun hne => ?_⟩, h4⟩
  have hl : 0 < c.progs.length := List.length_pos_iff.2 hne
  have g : ∀ (i : Nat) p, c.progs[i]? = some p → ∃ a, pl[i]? = some a := fun i p hp => by
    have := (List.getElem?_eq_some_iff.1 hp).1
    exact ⟨pl[i]'(by omega), List.getElem?_eq_getElem _⟩
  obtain ⟨a, ha⟩ := g 0 _ (List.getElem?_eq_getElem hl)
  obtain ⟨b, o, e, hb, _⟩ := h3 0 _ a (List.getElem?_eq_getElem hl) ha
  refine ⟨b, o, e, hb, fun i p hp => ?_⟩
  obtain ⟨a, ha⟩ := g i p hp
  obtain ⟨b', o', e', _, hc, hs⟩ := h3 i p a hp ha
  rw [e] at e'
  injection e' with e'
  injection e' with e1 e2
  subst e1; subst e2
  exact ⟨a.1, a.2, hc, hs⟩
section
variable {n B : Nat} {W : World} {R R' : RList} {L L' M : List SProp} {v : Value} {x y z : Operand}
  {d : Option Tmp} {ty : TypeId} {ps : String} {af : Array Edge} {g : Option (Nat × Bool)}
/-- A call that keeps what is held, shown from the world in which it starts. -/
theorem pure_cls {P : Program} {f : FuncId} {args : Array Value} (h : ∀ w, Cls B W L w → Calls P f args w fun e w' => e = .returned v ∧ Below w.heap.size w w') : Pure P f args B W L v := fun w hw =>
  (h w hw).mono fun _ _ ⟨he, hb⟩ => ⟨he, hw.1.trans (hb.mono hw.2.1), Nat.le_trans hw.2.1 hb.size, hw.2.2.below hb⟩
theorem sl_ptsE {α : Type} {enc : α → List Value} (henc : ∀ x, (enc x).length = 1) {b : Nat} {xs : List α} {w : World} (h : pts b 0 (xs.flatMap enc) ∈ L) (s : Sat B w L) (hn : xs.length ≤ 9223372036854775807) : Sl enc 1 w w.heap.size (some ⟨b, 0, none⟩) xs := by
  have hc : ∀ (i : Nat) v, (xs.flatMap enc)[i]? = some v → w.cell? ⟨b, i, none⟩ = some v := fun i v hi => by
    obtain ⟨M, hp⟩ := Pick.of_mem h
    have := ((s.perm hp.perm).cell hi).2.1
    simpa using this
  refine ⟨hn, fun hne => ⟨b, 0, rfl, ?_, fun i x hx j u hu => ?_⟩⟩
  · cases xs with
    | nil => exact absurd rfl hne
    | cons x xs =>
      cases hy : enc x with
      | nil => have := henc x; rw [hy] at this; simp at this
      | cons y ys =>
        have := hc 0 y (by simp [hy])
        exact lt_of_cell this
  · have := flat_get henc xs i x hx j u hu
    have := hc _ _ this
    simpa using this
theorem pure_short {A : Option Addr} {k c c' b : Nat} (ls : List (Option Addr × Nat × Nat)) (h : pts b 0 (ls.map fun x => .slice x.1 x.2.1 x.2.2) ∈ L) (hlen : ∀ x ∈ ls, x.2.1 ≤ 9223372036854775807) (hk : k ≤ 9223372036854775807) (hn : ls.length ≤ 9223372036854775807) {m : Nat} (hm : m = ls.length) {ms : List Nat} (hms : ls.map (fun x => x.2.1) = ms) :
    Pure Tryz.prog 7 #[.slice A k c, .slice (some ⟨b, 0, none⟩) m c'] B W L (.bool (shortL k ms)) := pure_cls fun w hw => by
  subst hm
  subst hms
  have e : (ls.map fun x => Value.slice x.1 x.2.1 x.2.2) = ls.flatMap encSl := by
    clear h hlen hn
    induction ls with
    | nil => rfl
    | cons x xs ih => simp [encSl, ih]
  rw [e] at h
  refine (short_any A _ k c c' ls w (sl_ptsE (fun _ => rfl) h hw.2.2 hn) hlen hk).mono ?_
  rintro e w' ⟨rfl, rfl⟩
  refine ⟨?_, Below.refl _ _⟩
  simp only [shortB, shortL, List.all_map]
  rfl
end
end
section
open Go Go.RowKit
def stOk (l : List St) : Bool := decide (l.length ≤ 1048576) && l.all fun s => decide (-9223372036854775808 ≤ s.ev.task ∧ s.ev.task ≤ 9223372036854775807)
theorem stOk_wf {l : List St} (h : stOk l = true) : l.length ≤ 1048576 ∧ StWf l := by
  simp only [stOk, Bool.and_eq_true, decide_eq_true_eq, List.all_eq_true] at h
  exact ⟨h.1, fun k hk => h.2 _ (List.getElem_mem hk)⟩
section
variable {B : Nat} {W : World} {L : List SProp}
theorem pure_agree35 {c : Cfg} {l : CfgAt} {pl : List (Option Addr × Nat)} {A : Option Addr} {cap m : Nat} {xs : List St} (hc : cfgL c l pl ∈ L) (hr : RdL B W L St.enc 6 A xs) (hm : xs.length = m) (hok : stOk xs = true) :
    Pure Tryz.prog 15 #[.agg #[.int .i64 c.workers, .int .i64 c.levels, .int .i64 c.classes, .int .i64 c.tasks, .int .i64 c.deque, .int .i64 c.heap, .int .i64 c.batch, .int .i64 c.age, .int .i64 c.patience, .slice l.pa c.progs.length l.pc, .slice l.sa c.subs.length l.sc], .slice A m cap] B W L (.bool true) := pure_cls fun w hw => by
  subst hm
  exact agree_any c l A cap xs w (cfgP_in (look_sat hw.2.2 hc)) (hr w hw) (stOk_wf hok).1 (stOk_wf hok).2
theorem pure_awake35 : Pure Tryz.prog 14 #[] B W L (.bool true) := pure_cls fun w _ => awake_any w
end
end
section
open Go Go.RowKit
set_option maxRecDepth 100000
set_option maxHeartbeats 2000000
variable {c : Cfg} {m : MemV} {now draw : Int} {recs : List RecV} {evs : List Ev} {f : FrV}
def msScripts_l1 (b : List Nat) (raw : List Int) : Nat → Int × Int × (List Ev) × AccV × MemV × (List MaV) × Int × (List RecV) × (List Int) × Int → Option (Int × Int × (List Ev) × AccV × MemV × (List MaV) × Int × (List RecV) × (List Int) × Int)
 | 0, _ => none
 | k + 1, y1 =>
  if y1.1 < ((raw.length : Nat) : Int) then
   if y1.1 < 60 then
    (kround_s raw (wi (5 * y1.1)) (wi ((decode b).workers + 1))).bind fun r15 =>
    (x28run_s (decode b) y1.2.2.2.2.1 y1.2.2.2.2.2.2.1 y1.2.1 y1.2.2.2.2.2.2.2.1 y1.2.2.1 y1.2.2.2.2.2.1 y1.2.2.2.2.2.2.2.2.2 y1.2.2.2.2.2.2.2.2.1 y1.2.2.2.1 r15).bind fun r17 =>
    msScripts_l1 b raw k ((wi (y1.1 + 1)), r17.2.2.1, r17.2.2.2.2.1, r17.2.2.2.2.2.2.2.2, r17.1, r17.2.2.2.2.2.1, r17.2.1, r17.2.2.2.1, r17.2.2.2.2.2.2.2.1, r17.2.2.2.2.2.2.1)
   else
   some (y1.1, y1.2.1, y1.2.2.1, y1.2.2.2.1, y1.2.2.2.2.1, y1.2.2.2.2.2.1, y1.2.2.2.2.2.2.1, y1.2.2.2.2.2.2.2.1, y1.2.2.2.2.2.2.2.2.1, y1.2.2.2.2.2.2.2.2.2)
  else
  some (y1.1, y1.2.1, y1.2.2.1, y1.2.2.2.1, y1.2.2.2.2.1, y1.2.2.2.2.2.1, y1.2.2.2.2.2.2.1, y1.2.2.2.2.2.2.2.1, y1.2.2.2.2.2.2.2.2.1, y1.2.2.2.2.2.2.2.2.2)
def msScripts_s (b : List Nat) (sc : List Nat) (raw : List Int) : Option (Bool) :=
 if (!(shortL b.length [raw.length])) = true then
  some true
 else
 if 800 < ((sc.length : Nat) : Int) then
  some true
 else
 (x28new_s (decode b)).bind fun r5 =>
 (koffers_s (decode b)).bind fun r6 =>
 (kscript_s sc 400).bind fun r8 =>
 if (((r6.length + r8.length : Nat)) : Int) < 100000000000 then
 (x28run_s (decode b) r5.1 0 0 r5.2.1 ([]) r5.2.2 0 ([]) (⟨0, 0, 0, 0⟩ : AccV) (r6 ++ r8)).bind fun r12 =>
 (msScripts_l1 b raw 62 (0, r12.2.2.1, r12.2.2.2.2.1, r12.2.2.2.2.2.2.2.2, r12.1, r12.2.2.2.2.2.1, r12.2.1, r12.2.2.2.1, r12.2.2.2.2.2.2.2.1, r12.2.2.2.2.2.2.1)).bind fun z1 =>
 (x28events_s z1.2.2.1 z1.2.2.2.2.2.2.2.2.1).bind fun r18 =>
 if stOk r18 = true then
 some true
 else none
 else none
theorem msScripts_ok {b : List Nat} {sc : List Nat} {raw : List Int} {o : Bool} (hs : msScripts_s b sc raw = some o) (bA : Option Addr) (bC : Nat) (scA : Option Addr) (scC : Nat) (rawA : Option Addr) (rawC : Nat) (hwb : BytesWf b) (B : Nat) (W : World) (hb : Sl encByte 1 W B bA b) (hsc : Sl encByte 1 W B scA sc) (hraw : Sl encInt 1 W B rawA raw) : Fn_ Tryz.prog 3 #[.slice bA b.length bC, .slice scA sc.length scC, .slice rawA raw.length rawC] B W [] (X := Unit) (fun x => .bool (o)) (fun x => []) := by
 unfold msScripts_s at hs
 refine fe3 Tryz.func3 57 rfl (fun F => ?_)
 refine q2 (zp (asg .const) (q1 (cS (q2 (zp (mv m1) (zp (mv m4) (rn (ot_buildSlice (T' := 23) (us := [.slice rawA raw.length rawC]) (.cons m0 .nil) (fun _ => by kernel_rfl)) ?_)))))))
 rintro b1
 refine zq (oq_call0 (by kernel_rfl) (.cons m2 (.cons m0 .nil)) (pure_short [(rawA, raw.length, rawC)] e0 (by simp only [List.mem_cons, List.not_mem_nil, or_false, forall_eq_or_imp, forall_eq]; exact hraw.1) hb.1 (by simp only [List.length_cons, List.length_nil]; omega) (m := 1) rfl (ms := [raw.length]) rfl)) (zp (op_notb m0) (zp (mv m0) (rt_caseb t0 t0 (fun h2 => ?_) (fun h2 => ?_))))
 ·replace hs := ip h2 hs
  refine zk rfl rfl e0 (zk rfl rfl e1 (zk rfl rfl e2 (zp (op_pick (b := true) m3 .const) (q1 (ct_true m0 ?_)))))
  refine q2 (zo (asg .const) pick10 (q4 (tR ?_)))
  obtain rfl := sI hs
  exact et_fn () rfl (.cons e0 .nil) rfl (d1 Ent.refl)
 replace hs := (ifb_f h2).symm.trans hs
 refine zw (mv m8).q rfl rfl e0 (zw (op_len m0 Tryz.underlying22).q rfl rfl e1 (zw (op_gtr m0 .const).q rfl rfl e2 (zp (op_pick (b := false) m3 m0) (q1 (ci hs m0 (fun h3 hs => ?_) (fun h3 hs => ?_))))))
 ·refine q2 (zo (asg .const) pick10 (q4 (tR ?_)))
  obtain rfl := sI hs
  exact et_fn () rfl (.cons e0 .nil) rfl (d1 Ent.refl)
 refine cK (tT (q2 (zp (mv m11) (rn (ot_config (.cons m0 .nil) (rd_w hb) hwb) ?_))))
 rintro ⟨l, pl⟩
 refine rn (al [zi, zi, zi, zi, zi, zi, zi, zi, zi, .slice none 0 0, .slice none 0 0]) ?_
 rintro b4
 refine rz (sta 0 m0 m1 t0) (q3 (zq (lda 0 m0 e0) ?_))
 obtain ⟨r5, hr5, hs⟩ := bO_of hs
 refine rn (co (.cons m0 .nil) (x28new_ok hr5 l _ _) pn) ?_
 rintro ⟨xb, eb⟩
 refine rt_open pick1 ?_
 rintro ⟨MA, MC⟩
 refine rt_open pick10 ?_
 rintro ⟨RA, RC⟩
 refine zp (asg m0) (q3 (zp (mv m0) (zq (lda 0 m4 e13) ?_)))
 obtain ⟨r6, hr6, hs⟩ := bO_of hs
 refine rn (co (.cons m0 .nil) (koffers_ok hr6 l _ _) pn) ?_
 rintro ⟨A7, c7⟩
 refine zp (mv (mU m1)) ?_
 obtain ⟨r8, hr8, hs⟩ := bO_of hs
 refine rn (co (.cons m0 (.cons .const .nil)) (kscript_ok hr8 scA scC _ _ hsc) pn) ?_
 rintro ⟨A9, c9⟩
 refine rt_se (ro_of_row (enc := EntV.enc) (sz := 2) (by decide) (fun _ => rfl) rfl) ?_
 obtain ⟨g11, hs⟩ := gO hs
 refine rn (ot_appendG (by_ := 16) (z := .agg #[zi, zi]) (us := r8.flatMap EntV.enc) m2 m0 (src_rd (enc := EntV.enc) (sz := 2) (fun _ => rfl) (rd_ro e0) rfl) pick1 Tryz.underlying33 (infoB_of (by kernel_rfl)) rfl (by decide) (flat_len (enc := EntV.enc) (sz := 2) (fun _ => rfl) _) (flat_scal (enc := EntV.enc) (fun _ => rfl) _) (by unfold maxLen; omega) (by omega)) ?_
 rintro ⟨A10, c10⟩
 refine rE (ent_flatx (ys := r8) rfl) ?_
 rw [show (r6.length + r8.length) = (r6 ++ r8).length from (List.length_append (bs := r8)).symm]
 refine rt_se (ro_of_row (enc := EntV.enc) (sz := 2) (by decide) (fun _ => rfl) rfl) ?_
 obtain ⟨r12, hr12, hs⟩ := bO_of hs
 refine ru (co (.cons m5 (.cons m0 .nil)) (x28run_ok hr12 xb eb l pl RA RC MA MC A10 c10 _ _) (p10 (p15 (p10 (p10 (p10 (p2 (p2 (p8 (p4 (p2 (p2 (p2 (p2 (p2 (p0 pn)))))))))))))))) (q1 (cS (q2 (zp (asg .const) (q1 ?_)))))
 obtain ⟨z1, hz1, hs⟩ := bO_of hs
 refine ct_cutG (S := Int × Int × (List Ev) × AccV × MemV × (List MaV) × Int × (List RecV) × (List Int) × Int) (G := Unit) (fun zw => z1 = zw) (fun z1 _ => [(8, vp xb 0), (7, vp b4 0), (6, .bool false)]) (fun z1 _ => pts eb 0 [vi ((decode b).workers), vi ((decode b).levels), vi ((decode b).classes), vi ((decode b).tasks), vi ((decode b).deque), vi ((decode b).heap), vi ((decode b).batch), vi ((decode b).age), vi ((decode b).patience), .slice l.pa ((decode b).progs.length) l.pc, .slice l.sa ((decode b).subs.length) l.sc] :: cfgL (decode b) l pl :: memS eb 11 z1.2.2.2.2.1 :: pts eb 17 [vi z1.2.2.2.2.2.2.1] :: pts eb 18 [vi z1.2.1] :: pts eb 19 [.slice RA z1.2.2.2.2.2.2.2.1.length RC] :: recsS RA RC z1.2.2.2.2.2.2.2.1 :: evsS eb 20 z1.2.2.1 :: pts xb 0 [vp eb 0] :: pts xb 1 [.slice MA z1.2.2.2.2.2.1.length MC] :: msS MA MC z1.2.2.2.2.2.1 :: pts xb 2 [vi z1.2.2.2.2.2.2.2.2.2] :: stpS xb 3 z1.2.2.2.2.2.2.2.2.1 :: pts xb 4 [vi z1.2.2.2.1.kind, vi z1.2.2.2.1.cell, vu z1.2.2.2.1.old, vu z1.2.2.2.1.new] :: roS EntV.enc 2 A10 c10 (r6 ++ r8) :: roS EntV.enc 2 A9 c9 r8 :: pts b4 0 [vi ((decode b).workers), vi ((decode b).levels), vi ((decode b).classes), vi ((decode b).tasks), vi ((decode b).deque), vi ((decode b).heap), vi ((decode b).batch), vi ((decode b).age), vi ((decode b).patience), .slice l.pa ((decode b).progs.length) l.pc, .slice l.sa ((decode b).subs.length) l.sc] :: pts b1 0 [.slice rawA raw.length rawC] :: [F]) ?_ (fun z1w _ hy1 => (?_ : CT _ _ _ _ _ _ _ _ _))
 ·refine cB (ct_loopK (S := Int × Int × (List Ev) × AccV × MemV × (List MaV) × Int × (List RecV) × (List Int) × Int) (G := Unit) (fun k y1 => msScripts_l1 b raw k y1 = some z1) (fun _ h => by rw [msScripts_l1] at h; cases h) (fun y1 _ => [(9, vi y1.1), (8, vp xb 0), (7, vp b4 0), (6, .bool false), (2, .slice rawA raw.length rawC)]) (fun y1 _ => pts eb 0 [vi ((decode b).workers), vi ((decode b).levels), vi ((decode b).classes), vi ((decode b).tasks), vi ((decode b).deque), vi ((decode b).heap), vi ((decode b).batch), vi ((decode b).age), vi ((decode b).patience), .slice l.pa ((decode b).progs.length) l.pc, .slice l.sa ((decode b).subs.length) l.sc] :: cfgL (decode b) l pl :: memS eb 11 y1.2.2.2.2.1 :: pts eb 17 [vi y1.2.2.2.2.2.2.1] :: pts eb 18 [vi y1.2.1] :: pts eb 19 [.slice RA y1.2.2.2.2.2.2.2.1.length RC] :: recsS RA RC y1.2.2.2.2.2.2.2.1 :: evsS eb 20 y1.2.2.1 :: pts xb 0 [vp eb 0] :: pts xb 1 [.slice MA y1.2.2.2.2.2.1.length MC] :: msS MA MC y1.2.2.2.2.2.1 :: pts xb 2 [vi y1.2.2.2.2.2.2.2.2.2] :: stpS xb 3 y1.2.2.2.2.2.2.2.2.1 :: pts xb 4 [vi y1.2.2.2.1.kind, vi y1.2.2.2.1.cell, vu y1.2.2.2.1.old, vu y1.2.2.2.1.new] :: roS EntV.enc 2 A10 c10 (r6 ++ r8) :: roS EntV.enc 2 A9 c9 r8 :: pts b4 0 [vi ((decode b).workers), vi ((decode b).levels), vi ((decode b).classes), vi ((decode b).tasks), vi ((decode b).deque), vi ((decode b).heap), vi ((decode b).batch), vi ((decode b).age), vi ((decode b).patience), .slice l.pa ((decode b).progs.length) l.pc, .slice l.sa ((decode b).subs.length) l.sc] :: pts b1 0 [.slice rawA raw.length rawC] :: [F]) 62 (0, r12.2.2.1, r12.2.2.2.2.1, r12.2.2.2.2.2.2.2.2, r12.1, r12.2.2.2.2.2.1, r12.2.1, r12.2.2.2.1, r12.2.2.2.2.2.2.2.1, r12.2.2.2.2.2.2.1) () hz1 (lc e0 (lc e8 (lc e11 (lc (eU e4) (lc (eU e7) .nil))))) Ent.refl (fun k1 y1 _ hz => ?_))
  clear hz1
  have hz1 := hz; clear hz
  rw [msScripts_l1] at hz1
  refine cS (q2 (zp (mv m0) (zp (mv m5) (zp (op_len m0 Tryz.underlying23) (zp (op_lss m2 m0) (zp (mv m0) (rt_case t0 t0 (fun h13 => ?_) (fun h13 => ?_))))))))
  ·replace hz1 := ip h13 hz1
   refine zw (mv m5).q rfl rfl e0 (zw (op_lss m0 .const).q rfl rfl e1 (zp (op_pick (b := true) m2 m0) (q1 (ci hz1 m0 (fun h14 hz1 => ?_) (fun h14 hz1 => ?_)))))
   ·refine cK (tT (cS (cB (cR (zp (mv m9) (zp (mv m13) (zp (mv m10) (zp (op_mulI .const m0) (zp (fd 0 0 m14) (zq (ld 0 0 m0 e16 rfl) (zp (aI m0 .const) ?_)))))))))))
    obtain ⟨r15, hr15, hz1⟩ := bO_of hz1
    refine rn (co (.cons m5 (.cons m3 (.cons m0 .nil))) (kround_ok hr15 rawA rawC _ _ hraw) pn) ?_
    rintro ⟨A16, c16⟩
    refine rt_se (ro_of_row (enc := EntV.enc) (sz := 2) (by decide) (fun _ => rfl) rfl) ?_
    obtain ⟨r17, hr17, hz1⟩ := bO_of hz1
    exact ru (co (.cons m7 (.cons m0 .nil)) (x28run_ok hr17 xb eb l pl RA RC MA MC A16 c16 _ _) (p1 (p1 (p1 (p1 (p1 (p1 (p1 (p1 (p1 (p1 (p1 (p1 (p1 (p1 (p0 pn)))))))))))))))) (rN (tB (tT (cR (zp (mv m17) (zp (aI m0 .const) (zo (asg m0) pick19 (rN (aK ((wi (y1.1 + 1)), r17.2.2.1, r17.2.2.2.2.1, r17.2.2.2.2.2.2.2.2, r17.1, r17.2.2.2.2.2.1, r17.2.1, r17.2.2.2.1, r17.2.2.2.2.2.2.2.1, r17.2.2.2.2.2.2.1) () hz1 (lc e0 (lc (eU e0) (lc (eU e1) (lc (eU e2) (lc (eU e3) lN))))) (d1 (eP (p14 pn))))))))))))
   refine cX (tX (tX (bH ?_)))
   obtain rfl := sI hz1
   exact aK (y1.1, y1.2.1, y1.2.2.1, y1.2.2.2.1, y1.2.2.2.2.1, y1.2.2.2.2.2.1, y1.2.2.2.2.2.2.1, y1.2.2.2.2.2.2.2.1, y1.2.2.2.2.2.2.2.2.1, y1.2.2.2.2.2.2.2.2.2) () rfl (lc e9 (lc e10 (lc e11 lN))) Ent.refl
  replace hz1 := im h13 hz1
  refine zk rfl rfl e0 (zk rfl rfl e1 (zp (op_pick (b := false) m2 .const) (q1 (ct_false m0 ?_))))
  refine cX (tX (tX (bH ?_)))
  obtain rfl := sI hz1
  exact aK (y1.1, y1.2.1, y1.2.2.1, y1.2.2.2.1, y1.2.2.2.2.1, y1.2.2.2.2.2.1, y1.2.2.2.2.2.2.1, y1.2.2.2.2.2.2.2.1, y1.2.2.2.2.2.2.2.2.1, y1.2.2.2.2.2.2.2.2.2) () rfl (lc e9 (lc e10 (lc e11 lN))) Ent.refl
 subst hy1
 refine cS ?_
 obtain ⟨r18, hr18, hs⟩ := bO_of hs
 obtain ⟨g19, hs⟩ := gO hs
 refine ct_cutG (S := Option Addr) (G := Nat) (fun _ => True) (fun A20 c20 => [(6, .bool true)]) (fun A20 c20 => rowS A20 r18.length c20 6 (r18.flatMap St.enc) :: evsS eb 20 z1.2.2.1 :: pts xb 0 [vp eb 0] :: stpS xb 3 z1.2.2.2.2.2.2.2.2.1 :: pts eb 0 [vi ((decode b).workers), vi ((decode b).levels), vi ((decode b).classes), vi ((decode b).tasks), vi ((decode b).deque), vi ((decode b).heap), vi ((decode b).batch), vi ((decode b).age), vi ((decode b).patience), .slice l.pa ((decode b).progs.length) l.pc, .slice l.sa ((decode b).subs.length) l.sc] :: cfgL (decode b) l pl :: memS eb 11 z1.2.2.2.2.1 :: pts eb 17 [vi z1.2.2.2.2.2.2.1] :: pts eb 18 [vi z1.2.1] :: pts eb 19 [.slice RA z1.2.2.2.2.2.2.2.1.length RC] :: recsS RA RC z1.2.2.2.2.2.2.2.1 :: pts xb 1 [.slice MA z1.2.2.2.2.2.1.length MC] :: msS MA MC z1.2.2.2.2.2.1 :: pts xb 2 [vi z1.2.2.2.2.2.2.2.2.2] :: pts xb 4 [vi z1.2.2.2.1.kind, vi z1.2.2.2.1.cell, vu z1.2.2.2.1.old, vu z1.2.2.2.1.new] :: pts b4 0 [vi ((decode b).workers), vi ((decode b).levels), vi ((decode b).classes), vi ((decode b).tasks), vi ((decode b).deque), vi ((decode b).heap), vi ((decode b).batch), vi ((decode b).age), vi ((decode b).patience), .slice l.pa ((decode b).progs.length) l.pc, .slice l.sa ((decode b).subs.length) l.sc] :: pts b1 0 [.slice rawA raw.length rawC] :: [F]) ?_ (fun A20 c20 _ => (?_ : CT _ _ _ _ _ _ _ _ _))
 ·refine ca 8 ?_
  refine za 0 rfl (oq_call0 (by kernel_rfl) .nil pure_awake35) ?_
  refine zt 1 rfl (mv m0) ?_
  refine at_take 3 (by kernel_rfl) rfl rfl rfl (mv m2) (wants_some rfl rfl e0 rfl) (put_new (by kernel_rfl)) ?_
  refine x2 2 4 ?_ ?_
  ·refine st_q rfl rfl (oq_loadA (o := 0) (i := 0) (k := 11) (us := [vi ((decode b).workers), vi ((decode b).levels), vi ((decode b).classes), vi ((decode b).tasks), vi ((decode b).deque), vi ((decode b).heap), vi ((decode b).batch), vi ((decode b).age), vi ((decode b).patience), .slice l.pa ((decode b).progs.length) l.pc, .slice l.sa ((decode b).subs.length) l.sc]) m4 e16 (rfl) (by kernel_rfl) rfl rfl) (wants_some rfl rfl e1 rfl) (put_new (by kernel_rfl)) ?_
   refine at_t 4 (by kernel_rfl) rfl rfl (ot_call0 (by kernel_rfl) (.cons m1 .nil) (x28events_ok hr18 xb eb _ _) (p7 (p7 (p10 .nil)))) (wants_some rfl rfl e2 rfl) (fun _ => (put_new (by kernel_rfl))) ?_
   rintro ⟨A24, c24⟩
   refine at_q 5 (by kernel_rfl) rfl rfl (oq_call0 (by kernel_rfl) (.cons m1 (.cons m0 .nil)) (pure_agree35 e5 (rd_row (enc := St.enc) (sz := 6) (by decide) (fun _ => rfl) e0 rfl) rfl g19)) (wants_some rfl rfl e3 rfl) (put_new (by kernel_rfl)) ?_
   refine zt 6 rfl (op_pick (b := true) m4 m0) ?_
   refine at_take 7 (by kernel_rfl) rfl rfl rfl (asg m0) wants_none (put_over pick9 (by kernel_rfl)) ?_
   refine zz ?_
   exact aK A24 c24 trivial (lc e0 lN) (d2 (eP (p15 (p15 pn))))
  refine st_t rfl rfl (ot_call0 (by kernel_rfl) (.cons m0 .nil) (x28events_ok hr18 xb eb _ _) (p7 (p7 (p10 .nil)))) (wants_some rfl rfl e1 rfl) (fun _ => (put_new (by kernel_rfl))) ?_
  rintro ⟨A25, c25⟩
  refine at_q 2 (by kernel_rfl) rfl rfl (oq_loadA (o := 0) (i := 0) (k := 11) (us := [vi ((decode b).workers), vi ((decode b).levels), vi ((decode b).classes), vi ((decode b).tasks), vi ((decode b).deque), vi ((decode b).heap), vi ((decode b).batch), vi ((decode b).age), vi ((decode b).patience), .slice l.pa ((decode b).progs.length) l.pc, .slice l.sa ((decode b).subs.length) l.sc]) m5 e17 (rfl) (by kernel_rfl) rfl rfl) (wants_some rfl rfl e2 rfl) (put_new (by kernel_rfl)) ?_
  refine at_q 5 (by kernel_rfl) rfl rfl (oq_call0 (by kernel_rfl) (.cons m0 (.cons m1 .nil)) (pure_agree35 e5 (rd_row (enc := St.enc) (sz := 6) (by decide) (fun _ => rfl) e0 rfl) rfl g19)) (wants_some rfl rfl e3 rfl) (put_new (by kernel_rfl)) ?_
  refine zt 6 rfl (op_pick (b := true) m4 m0) ?_
  refine at_take 7 (by kernel_rfl) rfl rfl rfl (asg m0) wants_none (put_over pick9 (by kernel_rfl)) ?_
  refine zz ?_
  exact aK A25 c25 trivial (lc e0 lN) (d2 (eP (p15 (p15 pn))))
 refine cQ ?_
 obtain rfl := sI hs
 exact et_fn () rfl (.cons e0 .nil) rfl (d1 (d4 (d4 (d4 (d4 Ent.refl)))))
end
end Go.Proofs.YtpbkelpokpglaaaGreat
