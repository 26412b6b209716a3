/- Walks: Of of measure. -/
import Derived.Test.YtpbkelpokpglaaaGreatMeas4
set_option linter.all false
namespace Go.Proofs.YtpbkelpokpglaaaGreat
open Go.RowKit Go.Maps
/-- The figures' block in the round k of the program's loop. -/
@[reducible] def figP (l : List St) (k : Nat) : Array Value := #[.int .i64 (cnt (l.take k) 1), .int .i64 (cnt (l.take k) 2), .int .i64 (cnt (l.take k) 3), .int .i64 (cnt (l.take k) 4), .int .i64 (cnt (l.take k) 5), .int .i64 (cnt (l.take k) 10),
  .int .i64 (cnt (l.take k) 14), .int .i64 (cnt (l.take k) 15), .int .i64 (cnt (l.take k) 11), .int .i64 (cnt (l.take k) 12), .int .i64 (cnt (l.take k) 16), .int .i64 (latSum l k), .int .i64 (latMax l k)]
theorem slot_spec {l : List St} {k : Nat} {kd : Int} {j : Nat} (h : slotOf kd = some j) : j < 11 ∧ (figP l k)[j]? = some (.int .i64 (cnt (l.take k) kd)) := by
  simp only [slotOf] at h
  repeat' (split at h)
  all_goals first | (cases h; subst_vars; exact ⟨by omega, rfl⟩) | (cases h)
theorem fig_bump {l : List St} {k : Nat} (hk : k < l.length) {j : Nat} (h : slotOf l[k].ev.kind = some j) (hl : latAt l k = none) : (figP l k).setIfInBounds j (.int .i64 ((cnt (l.take k) l[k].ev.kind : Int) + 1)) = figP l (k + 1) := by
  obtain ⟨kd, hkd⟩ : ∃ kd, kd = l[k].ev.kind := ⟨_, rfl⟩
  have hs := fun q => cnt_snoc l q k hk
  rw [← hkd] at h hs ⊢
  clear hkd
  simp only [slotOf] at h
  repeat' (split at h)
  all_goals first | (cases h; subst_vars; simp [figP, latSum, latMax, hl, hs]) | (cases h)
theorem fig_start {l : List St} {k : Nat} (hk : k < l.length) (h : l[k].ev.kind = 5) {v : Int} (hl : latAt l k = some v) :
    (((figP l k).setIfInBounds 4 (.int .i64 ((cnt (l.take k) 5 : Int) + 1))).setIfInBounds 11 (.int .i64 (latSum l k + v))).setIfInBounds 12 (.int .i64 (if latMax l k < v then v else latMax l k)) = figP l (k + 1) := by
  have hs := fun q => cnt_snoc l q k hk
  rw [h] at hs
  simp [figP, latSum, latMax, hl, hs]
theorem fig_same {l : List St} {k : Nat} (hk : k < l.length) (h : slotOf l[k].ev.kind = none) (hl : latAt l k = none) : figP l k = figP l (k + 1) := by
  obtain ⟨kd, hkd⟩ : ∃ kd, kd = l[k].ev.kind := ⟨_, rfl⟩
  have hs := fun q => cnt_snoc l q k hk
  rw [← hkd] at h hs
  clear hkd
  simp only [slotOf] at h
  repeat' (split at h)
  all_goals first | (cases h; done) | (simp [figP, latSum, latMax, hl, hs, *])
/-- The map of births. -/
def BornIs (D : DataW Unit) (l : List St) (k : Nat) : Prop := IsMap D ∧ ∀ t : Int, has D (.int .i64 t) = (bornAt l t k).isSome ∧ ∀ v, bornAt l t k = some v → ∀ z, D.atKey (.int .i64 t) z = .lit (.int .i64 v)
theorem born0 (l : List St) : BornIs (.map []) l 0 := ⟨isMap_empty, fun t => ⟨rfl, fun v h => by simp [bornAt] at h⟩⟩
theorem born_put {D : DataW Unit} {l : List St} {k : Nat} (h : BornIs D l k) (hk : k < l.length) (hb : l[k].ev.kind = 1 ∨ l[k].ev.kind = 3) : BornIs (D.put (.int .i64 l[k].ev.task) (.lit (.int .i64 l[k].at_))) l (k + 1) := by
  refine ⟨h.1.put _ _, fun t => ?_⟩
  by_cases ht : l[k].ev.task = t
  · subst ht
    rw [bornAt_hit hk hb rfl]
    refine ⟨by rw [has_put_same h.1 (by exact trivial)]; rfl, fun v hv z => ?_⟩
    rw [atKey_put_same h.1 (by exact trivial)]
    injection hv with hv
    rw [hv]
  · have hne : (Lit.int .i64 t) ≠ Lit.int .i64 l[k].ev.task := by intro e; injection e with _ e; exact ht e.symm
    rw [bornAt_miss hk (fun x => ht x.2)]
    refine ⟨by rw [has_put_other hne]; exact (h.2 t).1, fun v hv z => ?_⟩
    rw [atKey_put_other hne]
    exact (h.2 t).2 v hv z
theorem born_keep {D : DataW Unit} {l : List St} {k : Nat} (h : BornIs D l k) (hk : k < l.length) (hb : ¬ (l[k].ev.kind = 1 ∨ l[k].ev.kind = 3)) : BornIs D l (k + 1) :=
  ⟨h.1, fun t => by rw [bornAt_miss hk (fun x => hb x.1)]; exact h.2 t⟩
theorem mapLaw : Keyed Tryz.prog 3 := int_keyed Tryz.underlying3
theorem zeroInt (w : World) : (zeroValue 3).run Tryz.prog w = .ok (.int .i64 0) w := by kernel_rfl
def StWf (l : List St) : Prop := ∀ (k : Nat) (hk : k < l.length), -9223372036854775808 ≤ l[k].ev.task ∧ l[k].ev.task ≤ 9223372036854775807
/-- The worlds of the loop: what was there, the figures' block g7, the map's block. -/
structure OfInv (w : World) (W2 : World) (g7 g8 : Nat) (l : List St) (k : Nat) (wr : World) : Prop where
  below : Below (w.heap.size + 2) W2 wr
  fig : Blk wr g7 44 (figP l k)
  born : ∃ D : DataW Unit, wr.ownsMap Tryz.prog 3 (plainElem Tryz.prog 3) g8 k D ∧ BornIs D l k
theorem ofInv_W {w W2 : World} {g7 g8 : Nat} {l : List St} {k : Nat} {wr : World} (h : OfInv w W2 g7 g8 l k wr) (hb0 : Below w.heap.size w W2) : Below w.heap.size w wr := hb0.trans (h.below.mono (by omega))
end Go.Proofs.YtpbkelpokpglaaaGreat
