/- Contracts proved in another style, in the evaluator's words. No program occurs here. agree and awake of law 30 in the evaluator's words. -/
import Derived.Test.YtpbkelpokpglaaaGreatQm
import Derived.Test.YtpbkelpokpglaaaGreatQl
import Derived.Test.YtpbkelpokpglaaaGreatInh12
set_option linter.all false
namespace Go.Proofs.YtpbkelpokpglaaaGreat
section
open Go Go.RowKit
section
variable {S : Shp} {B : Nat} {w : World} {L : List SProp} {v : Value}
theorem pc_cases {f : Fl S.T S.M} {p : SProp} (h0 : ∀ h, pcW S.kt (fun _ _ _ _ => False) (fun _ _ _ _ _ => False) f v h → p h) (h1 : ∀ n h, pcW S.kt (obW S.kt (pcN S.kt n)) (rwW S.kt (pcN S.kt n)) f v h → p h) : ∀ h, pcS S.kt f v h → p h := fun h ⟨n, hn⟩ => by
  cases n with
  | zero => exact h0 h hn
  | succ n => exact h1 n h hn
theorem sat_i {k : IntKind} {x : Int} (s : Sat B w (pcS S.kt (.i k x) v :: L)) : v = .int k x ∧ Sat B w L := by
  have s1 : Sat B w (pureS (v = .int k x) :: L) := sat_head (pc_cases (f := .i k x) (fun _ h => h) fun _ _ h => h) s
  obtain ⟨h, H, k1, k2, a, e, h1, h2⟩ := s1
  exact ⟨h1, s.drop⟩
theorem sat_ro {c : Nat} {xs : List (S.T c)} (s : Sat B w (pcS S.kt (.ro c xs) v :: L)) : ∃ A cap, v = .slice A xs.length cap ∧ Sl (encF S.kt c) (S.kt.sz c) w w.heap.size A xs := by
  have s1 : Sat B w ((fun h => ∃ A cap, v = .slice A xs.length cap ∧ roS (encF S.kt c) (S.kt.sz c) A cap xs h) :: L) := sat_head (pc_cases (f := .ro c xs) (fun _ h => h) fun _ _ h => h) s
  obtain ⟨h, H, k1, k2, a, e, ⟨A, cap, e1, h1⟩, h2⟩ := s1
  have s2 : Sat B w (roS (encF S.kt c) (S.kt.sz c) A cap xs :: L) := ⟨h, H, k1, k2, a, e, h1, h2⟩
  exact ⟨A, cap, e1, (ro_sl s2 List.mem_cons_self).1⟩
theorem sat_rr {c : Nat} {xss : List (List (S.T c))} (s : Sat B w (pcS S.kt (.rr c xss) v :: L)) : ∃ A cap, v = .slice A xss.length cap ∧ xss.length ≤ 9223372036854775807 ∧ ∃ ps : List (Option Addr × Nat),
    ∀ (i : Nat) xs, xss[i]? = some xs → ∃ a, ps[i]? = some a ∧ (Sl (encF S.kt c) (S.kt.sz c) w w.heap.size a.1 xs ∧ xs.length ≤ a.2) ∧ ∃ b o, A = some ⟨b, o, none⟩ ∧ b < w.heap.size ∧ w.cell? ⟨b, o + i, none⟩ = some (.slice a.1 xs.length a.2) := by
  have s1 : Sat B w ((fun h => ∃ A cap, v = .slice A xss.length cap ∧ rrS (encF S.kt c) (S.kt.sz c) A cap xss h) :: L) := sat_head (pc_cases (f := .rr c xss) (fun _ h => h) fun _ _ h => h) s
  obtain ⟨h, H, k1, k2, a, e, ⟨A, cap, e1, ps, h1⟩, h2⟩ := s1
  have s2 : Sat B w (lookS _ :: L) := ⟨h, H, k1, k2, a, e, h1, h2⟩
  have h3 := look_sat s2 List.mem_cons_self
  exact ⟨A, cap, e1, h3.1.1, ps, h3.2⟩
theorem sat_fs {f : Fl S.T S.M} {fs : List (Fl S.T S.M)} {us : List Value} (s : Sat B w (fsS (pcS S.kt) (f :: fs) us ++ L)) : ∃ u us', us = u :: us' ∧ Sat B w (pcS S.kt f u :: (fsS (pcS S.kt) fs us' ++ L)) := by
  cases us with
  | nil => exact sat_false s
  | cons u us' => exact ⟨u, us', rfl, s⟩
theorem sat_fs0 {us : List Value} (s : Sat B w (fsS (pcS S.kt) [] us ++ L)) : us = [] ∧ Sat B w L := by
  cases us with
  | nil => exact ⟨rfl, s⟩
  | cons u us' => exact sat_false s
theorem sat_fi {k : IntKind} {x : Int} {fs : List (Fl S.T S.M)} {us : List Value} (s : Sat B w (fsS (pcS S.kt) (.i k x :: fs) us ++ L)) : ∃ us', us = .int k x :: us' ∧ Sat B w (fsS (pcS S.kt) fs us' ++ L) := by
  obtain ⟨u, us', e, s1⟩ := sat_fs s
  obtain ⟨e2, s2⟩ := sat_i s1
  subst e2
  exact ⟨us', e, s2⟩
end
section
variable {B : Nat} {w : World} {L : List SProp} {v : Value}
theorem sat_cfg {c : Cfg} (s : Sat B w (valS SR1 13 c v :: L)) : ∃ p, v = cfgV c p ∧ CfgIn w w.heap.size c p ∧ Sat B w L := by
  obtain ⟨us, e, s0⟩ := sat_val s
  have s0' : Sat B w (fsS (pcS SR1.kt) [.i .i64 c.workers, .i .i64 c.levels, .i .i64 c.classes, .i .i64 c.tasks, .i .i64 c.deque, .i .i64 c.heap, .i .i64 c.batch, .i .i64 c.age, .i .i64 c.patience, .rr 3 c.progs, .ro 4 c.subs] us ++ L) := s0
  obtain ⟨us1, rfl, s1⟩ := sat_fi s0'
  obtain ⟨us2, rfl, s2⟩ := sat_fi s1
  obtain ⟨us3, rfl, s3⟩ := sat_fi s2
  obtain ⟨us4, rfl, s4⟩ := sat_fi s3
  obtain ⟨us5, rfl, s5⟩ := sat_fi s4
  obtain ⟨us6, rfl, s6⟩ := sat_fi s5
  obtain ⟨us7, rfl, s7⟩ := sat_fi s6
  obtain ⟨us8, rfl, s8⟩ := sat_fi s7
  obtain ⟨us9, rfl, s9⟩ := sat_fi s8
  obtain ⟨u10, us10, rfl, s10⟩ := sat_fs s9
  obtain ⟨A, ca, rfl, hl, ps, hA⟩ := sat_rr s10
  obtain ⟨u11, us11, rfl, s11⟩ := sat_fs s10.drop
  obtain ⟨A2, ca2, rfl, hA2⟩ := sat_ro s11
  obtain ⟨rfl, s12⟩ := sat_fs0 s11.drop
  refine ⟨⟨A, ca, A2, ca2⟩, e, ⟨⟨hl, fun hne => ?_⟩, hA2⟩, s12⟩
  cases hp : c.progs with
  | nil => exact absurd hp hne
  | cons x xs =>
    obtain ⟨a0, _, _, b, o, e1, hb, _⟩ := hA 0 x (by rw [hp]; rfl)
    refine ⟨b, o, e1, hb, fun i p hi => ?_⟩
    obtain ⟨a1, g1, g2, b', o', e2, hb', hc'⟩ := hA i p (by rw [hp]; exact hi)
    rw [e1] at e2
    cases e2
    exact ⟨a1.1, a1.2, hc', g2.1⟩
end
end
section
open Go Go.RowKit
noncomputable def awakeI : Option ((Bool × Unit) × Unit) := some ((true, ()), ())
noncomputable abbrev awakeI_k : Con SR1 := ⟨20, [], [.sh .b], fun _ => awakeI⟩
theorem sat_bI {S : Shp} {B : Nat} {w : World} {L : List SProp} {x : Bool} (s : Sat B w L) : Sat B w (pcS S.kt (.b x) (.bool x) :: L) := sat_pureI s fun _ => ⟨0, rfl⟩
theorem awakeI_ok : CO Tryz.prog awakeI_k := fun x out hx B W vs F w hc => by
  obtain ⟨hb, hB, hs⟩ := hc
  rcases vs with _ | ⟨v1, vs⟩
  · refine (awakeI_any w).mono fun e w' ⟨he, hb'⟩ => ⟨[.bool true], he, hb.trans (hb'.mono hB), Nat.le_trans hB hb'.size, ?_⟩
    replace hx : (some ((true, ()), ()) : Option ((Bool × Unit) × Unit)) = some out := hx
    obtain rfl := Option.some.inj hx
    exact sat_bI (S := SR1) (x := true) (hs.below hb')
  · exact sat_false hs
open Classical in
noncomputable def agreeI (c : Cfg) (l : List Ev) : Option ((Bool × Unit) × Unit) := if l.length ≤ 1000000 ∧ EvsOk l then some ((true, ()), ()) else none
noncomputable abbrev agreeI_k : Con SR1 := ⟨21, [.val 13, .sh (.ro 2)], [.sh .b], fun x => agreeI x.1 x.2.1⟩
theorem sat_ev {B : Nat} {w : World} {L : List SProp} {v : Value} {l : List Ev} (s : Sat B w (pcS SR1.kt (.ro 2 l) v :: L)) : ∃ A cap, v = .slice A l.length cap ∧ Sl Ev.enc 5 w w.heap.size A l := sat_ro (S := SR1) (c := 2) s
theorem agreeI_aux (c : Cfg) (l : List Ev) (out : (Bool × Unit) × Unit) (hx : agreeI c l = some out) (B : Nat) (W : World) (vs : List Value) (F : SProp) (w : World) (hc : Cls B W (PreS SR1 [.val 13, .sh (.ro 2)] ((c, l, ()) : Cfg × List Ev × Unit) vs ++ [F]) w) :
    Calls Tryz.prog agreeI_k.f vs.toArray w fun e w' => ∃ us, e = .returned (tupled us) ∧ Cls B W (ResS SR1 [.sh .b] out.1 us ++ [F]) w' := by
  obtain ⟨hb, hB, hs⟩ := hc
  rcases vs with _ | ⟨v1, _ | ⟨v2, _ | ⟨v3, vs⟩⟩⟩
  · exact sat_false hs
  · replace hs : Sat B w (valS SR1 13 c v1 :: ([fun _ => False] ++ [F])) := hs
    exact sat_false hs.drop
  rotate_left
  · replace hs : Sat B w (valS SR1 13 c v1 :: pcS SR1.kt (.ro 2 l) v2 :: ([fun _ => False] ++ [F])) := hs
    exact sat_false hs.drop.drop
  replace hs : Sat B w [valS SR1 13 c v1, pcS SR1.kt (.ro 2 l) v2, F] := hs
  obtain ⟨p, rfl, hp, s1⟩ := sat_cfg hs
  obtain ⟨A, cap, rfl, hl⟩ := sat_ev s1
  have s2 := s1.drop
  unfold agreeI at hx
  by_cases hg : l.length ≤ 1000000 ∧ EvsOk l
  · rw [if_pos hg] at hx
    obtain rfl := Option.some.inj hx
    exact (agreeI_any c p A cap l w hp hl hg.1 hg.2).mono fun e w' ⟨he, hb'⟩ => ⟨[.bool true], he, hb.trans (hb'.mono hB), Nat.le_trans hB hb'.size, sat_bI (S := SR1) (x := true) (s2.below hb')⟩
  · rw [if_neg hg] at hx; cases hx
theorem agreeI_ok : CO Tryz.prog agreeI_k := fun x out hx B W vs F w hc => (agreeI_aux x.1 x.2.1 out hx B W vs F w hc).mono fun e w' ⟨us, he, h⟩ => ⟨us, he, by
  have e0 : PostS SR1 agreeI_k.ps out.2 vs = [] := by
    rcases vs with _ | ⟨v1, _ | ⟨v2, vs⟩⟩ <;> rfl
  rw [e0]; exact h⟩
end
end Go.Proofs.YtpbkelpokpglaaaGreat
