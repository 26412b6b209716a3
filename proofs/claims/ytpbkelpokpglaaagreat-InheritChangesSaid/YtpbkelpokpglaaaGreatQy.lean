/- The law InheritChanges. The law InheritChanges, plainly. -/
import Derived.Test.YtpbkelpokpglaaaGreatQq
import Derived.Test.YtpbkelpokpglaaaGreatQx
import Derived.Test.YtpbkelpokpglaaaGreatQw
set_option linter.all false
namespace Go.Proofs.YtpbkelpokpglaaaGreat
section
open Go Go.RowKit
set_option maxRecDepth 100000
noncomputable def behind (c : Cfg) (s : List Int) (raw : List Int) : Option ((EngV × Unit) × (Unit)) :=
 (r28new c).bind fun r1 =>
 (koffers c).bind fun r2 =>
 if 0 ≤ (if wi (40 * ((c.subs.length : Nat) : Int)) < wi (3 * ((s.length : Nat) : Int)) then wi (40 * ((c.subs.length : Nat) : Int)) else wi (3 * ((s.length : Nat) : Int))) ∧ (if wi (40 * ((c.subs.length : Nat) : Int)) < wi (3 * ((s.length : Nat) : Int)) then wi (40 * ((c.subs.length : Nat) : Int)) else wi (3 * ((s.length : Nat) : Int))) ≤ ((r2.1.1.length : Nat) : Int) then
  (r28run r1.1.1 (r2.1.1.take ((if wi (40 * ((c.subs.length : Nat) : Int)) < wi (3 * ((s.length : Nat) : Int)) then wi (40 * ((c.subs.length : Nat) : Int)) else wi (3 * ((s.length : Nat) : Int))) : Int).toNat)).bind fun r3 =>
  (kscript s 200).bind fun r4 =>
  (r28run r3.2.1 r4.1.1).bind fun r5 =>
  (lpF (σ := Int × EngV × Unit) (β := Int × EngV × Unit) (fun self8 x6 =>
   if x6.1 < ((raw.length : Nat) : Int) then
    if x6.1 < 50 then
     (kround raw (wi (5 * x6.1)) (wi (c.workers + 1))).bind fun r9 =>
     (r28run x6.2.1 r9.1.1).bind fun r10 =>
     self8 (wi (x6.1 + 1), r10.2.1, ())
    else
    some (x6.1, x6.2.1, ())
   else
   some (x6.1, x6.2.1, ())
  ) 18446744073709551616 (0, r5.2.1, ())).bind fun z7 =>
  some ((z7.2.1, ()), (()))
 else none
noncomputable abbrev behind_k : Con SR1 := ⟨19, [.val 13, .sh (.ro 17), .sh (.ro 1)], [.sh (.own 16)], fun x => behind x.1 x.2.1 x.2.2.1⟩
theorem behind_ok : CO Tryz.prog behind_k := co_fn mixed Tryz.func19 [r28new_k, koffers_k, r28run_k, kscript_k, kround_k] ⟨r28new_ok, koffers_ok, r28run_ok, kscript_ok, kround_ok, trivial⟩ [] trivial (fun _ => []) [(5, .loop [.rg 8 sI_, .rg 7 (.own 16)] 18446744073709551616 0)] fun x => by kernel_rfl
noncomputable def lawInhC (b : List Int) (s : List Int) (raw : List Int) (gone : List Int) : Option ((Bool × Unit) × (Unit)) :=
 (kshort b ([raw, gone])).bind fun r1 =>
 if (!r1.1.1) = true then
  some ((true, ()), (()))
 else
 if 600 < ((s.length : Nat) : Int) then
  some ((true, ()), (()))
 else
 (kconfig b).bind fun r2 =>
 (behind r2.1.1 s raw).bind fun r3 =>
 (lpF (σ := List Ev × Int × Unit) (β := List Ev × Int × Unit) (fun self6 x4 =>
  if x4.2.1 < ((gone.length : Nat) : Int) then
   if x4.2.1 < 6 then
    if 0 < ((x4.1.length : Nat) : Int) then
     (knumber gone x4.2.1 ((x4.1.length : Nat) : Int)).bind fun r7 =>
     agr (
      agr (
       if 0 ≤ r7.1.1 ∧ r7.1.1 ≤ ((x4.1.length : Nat) : Int) then
        agr (
         if (((([] : List Ev).length + (x4.1.take (r7.1.1 : Int).toNat).length : Nat)) : Int) < 1000000000000 then
          if 0 ≤ wi (r7.1.1 + 1) ∧ wi (r7.1.1 + 1) ≤ ((x4.1.length : Nat) : Int) then
           if ((((([]) ++ (x4.1.take (r7.1.1 : Int).toNat)).length + (x4.1.drop (wi (r7.1.1 + 1) : Int).toNat).length : Nat)) : Int) < 1000000000000 then
            self6 ((([]) ++ (x4.1.take (r7.1.1 : Int).toNat)) ++ (x4.1.drop (wi (r7.1.1 + 1) : Int).toNat), wi (x4.2.1 + 1), ())
           else none
          else none
         else none
        ) (
         if 0 ≤ wi (r7.1.1 + 1) ∧ wi (r7.1.1 + 1) ≤ ((x4.1.length : Nat) : Int) then
          if (((([] : List Ev).length + (x4.1.take (r7.1.1 : Int).toNat).length : Nat)) : Int) < 1000000000000 then
           if ((((([]) ++ (x4.1.take (r7.1.1 : Int).toNat)).length + (x4.1.drop (wi (r7.1.1 + 1) : Int).toNat).length : Nat)) : Int) < 1000000000000 then
            self6 ((([]) ++ (x4.1.take (r7.1.1 : Int).toNat)) ++ (x4.1.drop (wi (r7.1.1 + 1) : Int).toNat), wi (x4.2.1 + 1), ())
           else none
          else none
         else none
        )
       else none
      ) (
       if 0 ≤ wi (r7.1.1 + 1) ∧ wi (r7.1.1 + 1) ≤ ((x4.1.length : Nat) : Int) then
        if 0 ≤ r7.1.1 ∧ r7.1.1 ≤ ((x4.1.length : Nat) : Int) then
         if (((([] : List Ev).length + (x4.1.take (r7.1.1 : Int).toNat).length : Nat)) : Int) < 1000000000000 then
          if ((((([]) ++ (x4.1.take (r7.1.1 : Int).toNat)).length + (x4.1.drop (wi (r7.1.1 + 1) : Int).toNat).length : Nat)) : Int) < 1000000000000 then
           self6 ((([]) ++ (x4.1.take (r7.1.1 : Int).toNat)) ++ (x4.1.drop (wi (r7.1.1 + 1) : Int).toNat), wi (x4.2.1 + 1), ())
          else none
         else none
        else none
       else none
      )
     ) (
      agr (
       if 0 ≤ r7.1.1 ∧ r7.1.1 ≤ ((x4.1.length : Nat) : Int) then
        agr (
         agr (
          if (((([] : List Ev).length + (x4.1.take (r7.1.1 : Int).toNat).length : Nat)) : Int) < 1000000000000 then
           if 0 ≤ wi (r7.1.1 + 1) ∧ wi (r7.1.1 + 1) ≤ ((x4.1.length : Nat) : Int) then
            if ((((([]) ++ (x4.1.take (r7.1.1 : Int).toNat)).length + (x4.1.drop (wi (r7.1.1 + 1) : Int).toNat).length : Nat)) : Int) < 1000000000000 then
             self6 ((([]) ++ (x4.1.take (r7.1.1 : Int).toNat)) ++ (x4.1.drop (wi (r7.1.1 + 1) : Int).toNat), wi (x4.2.1 + 1), ())
            else none
           else none
          else none
         ) (
          if 0 ≤ wi (r7.1.1 + 1) ∧ wi (r7.1.1 + 1) ≤ ((x4.1.length : Nat) : Int) then
           if (((([] : List Ev).length + (x4.1.take (r7.1.1 : Int).toNat).length : Nat)) : Int) < 1000000000000 then
            if ((((([]) ++ (x4.1.take (r7.1.1 : Int).toNat)).length + (x4.1.drop (wi (r7.1.1 + 1) : Int).toNat).length : Nat)) : Int) < 1000000000000 then
             self6 ((([]) ++ (x4.1.take (r7.1.1 : Int).toNat)) ++ (x4.1.drop (wi (r7.1.1 + 1) : Int).toNat), wi (x4.2.1 + 1), ())
            else none
           else none
          else none
         )
        ) (
         if 0 ≤ wi (r7.1.1 + 1) ∧ wi (r7.1.1 + 1) ≤ ((x4.1.length : Nat) : Int) then
          if (((([] : List Ev).length + (x4.1.take (r7.1.1 : Int).toNat).length : Nat)) : Int) < 1000000000000 then
           if ((((([]) ++ (x4.1.take (r7.1.1 : Int).toNat)).length + (x4.1.drop (wi (r7.1.1 + 1) : Int).toNat).length : Nat)) : Int) < 1000000000000 then
            self6 ((([]) ++ (x4.1.take (r7.1.1 : Int).toNat)) ++ (x4.1.drop (wi (r7.1.1 + 1) : Int).toNat), wi (x4.2.1 + 1), ())
           else none
          else none
         else none
        )
       else none
      ) (
       if 0 ≤ wi (r7.1.1 + 1) ∧ wi (r7.1.1 + 1) ≤ ((x4.1.length : Nat) : Int) then
        agr (
         if 0 ≤ r7.1.1 ∧ r7.1.1 ≤ ((x4.1.length : Nat) : Int) then
          if (((([] : List Ev).length + (x4.1.take (r7.1.1 : Int).toNat).length : Nat)) : Int) < 1000000000000 then
           if ((((([]) ++ (x4.1.take (r7.1.1 : Int).toNat)).length + (x4.1.drop (wi (r7.1.1 + 1) : Int).toNat).length : Nat)) : Int) < 1000000000000 then
            self6 ((([]) ++ (x4.1.take (r7.1.1 : Int).toNat)) ++ (x4.1.drop (wi (r7.1.1 + 1) : Int).toNat), wi (x4.2.1 + 1), ())
           else none
          else none
         else none
        ) (
         if 0 ≤ r7.1.1 ∧ r7.1.1 ≤ ((x4.1.length : Nat) : Int) then
          if (((([] : List Ev).length + (x4.1.take (r7.1.1 : Int).toNat).length : Nat)) : Int) < 1000000000000 then
           if ((((([]) ++ (x4.1.take (r7.1.1 : Int).toNat)).length + (x4.1.drop (wi (r7.1.1 + 1) : Int).toNat).length : Nat)) : Int) < 1000000000000 then
            self6 ((([]) ++ (x4.1.take (r7.1.1 : Int).toNat)) ++ (x4.1.drop (wi (r7.1.1 + 1) : Int).toNat), wi (x4.2.1 + 1), ())
           else none
          else none
         else none
        )
       else none
      )
     )
    else
    some (x4.1, x4.2.1, ())
   else
   some (x4.1, x4.2.1, ())
  else
  some (x4.1, x4.2.1, ())
 ) 18446744073709551616 (r3.1.1.e.evs, 0, ())).bind fun z5 =>
 (awakeI).bind fun r8 =>
 if r8.1.1 = true then
  (agreeI r2.1.1 z5.1).bind fun r9 =>
  some ((r9.1.1, ()), (()))
 else
 some ((false, ()), (()))
noncomputable abbrev lawInhC_k : Con SR1 := ⟨5, [.sh (.ro 17), .sh (.ro 17), .sh (.ro 1), .sh (.ro 1)], [.sh .b], fun x => lawInhC x.1 x.2.1 x.2.2.1 x.2.2.2.1⟩
theorem lawInhC_ok : CO Tryz.prog lawInhC_k := co_fn mixed Tryz.func5 [kshort_k, kconfig_k, behind_k, knumber_k, awakeI_k, agreeI_k] ⟨kshort_ok, kconfig_ok, behind_ok, knumber_ok, awakeI_ok, agreeI_ok, trivial⟩ [] trivial (fun _ => []) [(6, .loop [.rg 10 (.ro 2), .rg 11 sI_] 18446744073709551616 0)] fun x => by kernel_rfl
end
section
open Go
theorem EnsR.take {K : Nat} {l : List EntV} (h : EnsR K l) (n : Nat) : EnsR K (l.take n) := ⟨by rw [List.length_take]; have := h.1; omega, fun v hv => h.2 v (List.mem_of_mem_take hv)⟩
/-- A run of an engine, from what holds of it. -/
theorem run_good {K : Nat} {x : EngV} (h : EngP K x) {l : List EntV} {m : Nat} (hl : EnsR m l) (hK1 : 1 ≤ K) (hK : K + 5 * m ≤ 700000000) : Good (r28run x l) fun o => EngP (K + 5 * m) o.2.1 ∧ o.2.1.e.c = x.e.c := by
  have h1 := hl.1
  obtain ⟨g1, g2, _, _⟩ := runL_inv l K x h hl.2 hK1 (by omega)
  exact ⟨_, run_eq' h hl.2 hK1 (by omega), g1.le (by omega), g2⟩
theorem offers_len {c : Cfg} (hc : CfgOk c) : Good (koffers c) fun o => o.1.1.length = 40 * c.subs.length ∧ ∀ v ∈ o.1.1, Rg v.value := by
  have w1 := hc.w1
  have w2 := hc.w2
  have hs := hc.sl
  unfold koffers
  have e0 : wi (40 * ((c.subs.length : Nat) : Int)) = 40 * ((c.subs.length : Nat) : Int) := wi_id (rg_lit (by omega))
  rw [e0]
  refine Good.bind (P := fun z => z.1.length = 40 * c.subs.length ∧ ∀ v ∈ z.1, Rg v.value) (lp_good (fun x => 0 ≤ x.2.1 ∧ x.2.1 ≤ 40 * (c.subs.length : Int) ∧ (x.1.length : Int) = x.2.1 ∧ ∀ v ∈ x.1, Rg v.value) (fun x => (40 * (c.subs.length : Int) - x.2.1).toNat) (fun self x ⟨q0, q1, q2, q3⟩ ih => ?_) _ _ ⟨Int.le_refl 0, by show (0 : Int) ≤ 40 * (c.subs.length : Int); omega, rfl, fun v hv => by cases hv⟩ (by show (40 * (c.subs.length : Int) - 0).toNat < _; omega)) fun z hz => .some_ hz
  refine Good.ite (fun hlt => ?_) fun hlt => .some_ ⟨by show x.1.length = 40 * c.subs.length; omega, q3⟩
  have e2 : wi (x.2.1 + 1) = x.2.1 + 1 := wi_id (rg_lit (by omega))
  rw [show kpick c.workers = some (((⟨0, c.workers⟩ : EntV), ()), ()) from rfl, Option.bind_some, e2]
  refine .guard (by simp; omega) fun _ => ih _ ⟨by show 0 ≤ x.2.1 + 1; omega, by show x.2.1 + 1 ≤ 40 * (c.subs.length : Int); omega, by simp; omega, fun v hv => ?_⟩ (by show (40 * (c.subs.length : Int) - (x.2.1 + 1)).toNat < (40 * (c.subs.length : Int) - x.2.1).toNat; omega)
  rcases List.mem_append.1 hv with hv | hv
  · exact q3 v hv
  · rw [List.mem_singleton] at hv; subst hv; exact rg_lit (by show -1000000000000 ≤ c.workers ∧ c.workers ≤ 1000000000000; omega)
theorem behind_good {c : Cfg} {s raw : List Int} (hc : DecOk c) (hs : s.length ≤ 600) (hr : raw.length ≤ 400) : Good (behind c s raw) fun o => EngP 100000 o.1.1 := by
  have hw := hc.w
  have hk := hc.ok
  have hsn := hc.sn
  unfold behind
  rw [new_eq hk, Option.bind_some]
  obtain ⟨o2, e2, h2⟩ := offers_len hk
  rw [e2, Option.bind_some]
  have a1 : wi (40 * ((c.subs.length : Nat) : Int)) = 40 * ((c.subs.length : Nat) : Int) := wi_id (rg_lit (by omega))
  have a2 : wi (3 * ((s.length : Nat) : Int)) = 3 * ((s.length : Nat) : Int) := wi_id (rg_lit (by omega))
  rw [a1, a2]
  dsimp only
  have hn := new_inv hk
  have h2' : EnsR 200 o2.1.1 := ⟨by have := h2.1; omega, h2.2⟩
  refine .guard (by have := h2.1; split <;> omega) fun _ => ?_
  refine (run_good hn (h2'.take _) (Nat.le_refl 1) (by decide)).bind fun r3 h3 => ?_
  obtain ⟨o4, e4, h4⟩ := script_good (b := s) (n := 200) (by omega) (by decide)
  rw [e4, Option.bind_some]
  refine (run_good h3.1 (m := 200) (by simpa using h4) (by decide) (by decide)).bind fun r5 h5 => ?_
  refine Good.bind (P := fun z => EngP 100000 z.2.1) (lp_good (fun x => 0 ≤ x.1 ∧ x.1 ≤ 50 ∧ EngP (10000 + 100 * x.1.toNat) x.2.1) (fun x => (50 - x.1).toNat) (fun self x ⟨q0, q1, q2⟩ ih => ?_) _ _ ⟨Int.le_refl 0, by show (0 : Int) ≤ 50; decide, h5.1.le (by show 1 + 5 * 200 + 5 * 200 ≤ 10000 + 100 * (0 : Int).toNat; decide)⟩ (by show ((50 : Int) - 0).toNat < 18446744073709551616; decide)) fun z hz => .some_ hz
  refine Good.ite (fun hlt => Good.ite (fun hlt2 => ?_) fun _ => .some_ (q2.le (by omega))) fun _ => .some_ (q2.le (by omega))
  have b1 : wi (5 * x.1) = 5 * x.1 := wi_id (rg_lit (by omega))
  have b2 : wi (c.workers + 1) = c.workers + 1 := wi_id (rg_lit (by omega))
  have b3 : wi (x.1 + 1) = x.1 + 1 := wi_id (rg_lit (by omega))
  rw [b1, b2, b3]
  refine (round_good (raw := raw) (at_ := 5 * x.1) (n := c.workers + 1) (by omega) (by omega) (by omega) (by omega) (by omega)).bind fun r9 h9 => ?_
  have h9' : EnsR 8 r9.1.1 := ⟨by have := h9.1; omega, h9.2⟩
  refine (run_good q2 h9' (by omega) (by omega)).bind fun r10 h10 => ?_
  exact ih _ ⟨by show 0 ≤ x.1 + 1; omega, by show x.1 + 1 ≤ 50; omega, h10.1.le (by show _ ≤ 10000 + 100 * (x.1 + 1).toNat; omega)⟩ (by show (50 - (x.1 + 1)).toNat < (50 - x.1).toNat; omega)
theorem evsOk_of {l : List Ev} (h : ∀ e ∈ l, EvR e) : EvsOk l := fun k hk => by
  have := h _ (List.getElem_mem hk)
  exact ⟨this.kind, this.worker, this.task, this.other, this.level⟩
theorem lawInhC_true {b s raw gone : List Int} (hb : ∀ x ∈ b, 0 ≤ x ∧ x ≤ 255) : lawInhC b s raw gone = some ((true, ()), ()) := by
  suffices h : Good (lawInhC b s raw gone) fun o => o = ((true, ()), ()) by
    obtain ⟨o, e, rfl⟩ := h; exact e
  unfold lawInhC
  obtain ⟨o1, e1, h1⟩ := short_good b [raw, gone] (by show 2 ≤ 1000000; decide)
  rw [e1, Option.bind_some]
  rcases Bool.eq_false_or_eq_true o1.1.1 with hs1 | hs1
  rotate_left
  · rw [hs1]; exact .some_ rfl
  rw [if_neg (by rw [hs1]; decide)]
  refine Good.ite (fun _ => .some_ rfl) fun hs2 => ?_
  have hl := h1 hs1
  have hraw := hl.2 raw (by simp)
  have hgone := hl.2 gone (by simp)
  refine (config_good hb (by omega)).bind fun o2 h2 => ?_
  refine (behind_good h2 (by omega) hraw).bind fun r3 h3 => ?_
  have hev := h3.env.evs
  refine Good.bind (P := fun z => z.1.length ≤ 100000 ∧ ∀ e ∈ z.1, EvR e) (lp_good (fun x => 0 ≤ x.2.1 ∧ x.2.1 ≤ 6 ∧ x.1.length ≤ 100000 ∧ ∀ e ∈ x.1, EvR e) (fun x => (6 - x.2.1).toNat) (fun self x ⟨q0, q1, q2, q3⟩ ih => ?step) _ _ ⟨Int.le_refl 0, by show (0 : Int) ≤ 6; decide, hev.1, hev.2⟩ (by show ((6 : Int) - 0).toNat < 18446744073709551616; decide)) fun z hz => ?cont
  case step =>
    refine Good.ite (fun hlt => Good.ite (fun hlt2 => Good.ite (fun hlt3 => ?_) fun _ => .some_ ⟨q2, q3⟩) fun _ => .some_ ⟨q2, q3⟩) fun _ => .some_ ⟨q2, q3⟩
    have b3 : wi (x.2.1 + 1) = x.2.1 + 1 := wi_id (rg_lit (by omega))
    refine (number_rg (l := gone) (i := x.2.1) (n := ((x.1.length : Nat) : Int)) (by omega) (by omega) (by omega) (by omega) (by omega)).bind fun r7 h7 => ?_
    have b4 : wi (r7.1.1 + 1) = r7.1.1 + 1 := wi_id (rg_lit (by omega))
    rw [b3, b4]
    have g1 : 0 ≤ r7.1.1 ∧ r7.1.1 ≤ ((x.1.length : Nat) : Int) := ⟨h7.1, by omega⟩
    have g2 : 0 ≤ r7.1.1 + 1 ∧ r7.1.1 + 1 ≤ ((x.1.length : Nat) : Int) := ⟨by omega, by omega⟩
    have g3 : ((([] : List Ev).length + (x.1.take r7.1.1.toNat).length : Nat) : Int) < 1000000000000 := by
      rw [List.length_take]; simp only [List.length_nil]; omega
    have g4 : (((([] : List Ev) ++ x.1.take r7.1.1.toNat).length + (x.1.drop (r7.1.1 + 1).toNat).length : Nat) : Int) < 1000000000000 := by
      rw [List.nil_append, List.length_take, List.length_drop]; omega
    simp only [if_pos g1, if_pos g2, if_pos g3, if_pos g4, agr_self]
    refine ih _ ⟨by show 0 ≤ x.2.1 + 1; omega, by show x.2.1 + 1 ≤ 6; omega, ?_, fun e he => ?_⟩ (by show (6 - (x.2.1 + 1)).toNat < (6 - x.2.1).toNat; omega)
    · show (([] ++ x.1.take r7.1.1.toNat) ++ x.1.drop (r7.1.1 + 1).toNat).length ≤ _
      rw [List.nil_append, List.length_append, List.length_take, List.length_drop]; omega
    · rcases List.mem_append.1 he with he | he
      · exact q3 e (List.mem_of_mem_take he)
      · exact q3 e (List.mem_of_mem_drop he)
  case cont =>
    unfold awakeI
    rw [Option.bind_some, if_pos rfl]
    unfold agreeI
    rw [if_pos ⟨by have := hz.1; omega, evsOk_of hz.2⟩, Option.bind_some]
    exact .some_ rfl
end
end Go.Proofs.YtpbkelpokpglaaaGreat
