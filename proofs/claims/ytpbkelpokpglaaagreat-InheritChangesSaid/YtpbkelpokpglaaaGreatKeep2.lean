/- Walk: the statements' Config; slices that were just made, read as lists. -/
import Derived.Test.YtpbkelpokpglaaaGreatDec3
set_option linter.all false
namespace Go.Proofs.YtpbkelpokpglaaaGreat
open Go.RowKit
theorem sl_blk {α : Type} {enc : α → List Value} {sz : Nat} (henc : ∀ x, (enc x).length = sz) {w : World} {g : Nat} {t : TypeId} {cs : Array Value} {xs : List α} (hB : Blk w g t cs) (hcs : cs = (xs.flatMap enc).toArray) (hl : xs.length ≤ 9223372036854775807) : Sl enc sz w w.heap.size (some ⟨g, 0, none⟩) xs := by
  subst hcs
  refine ⟨hl, fun _ => ⟨g, 0, rfl, hB.lt, fun i x hx j u hu => ?_⟩⟩
  rw [Nat.zero_add, hB.cell]
  simpa using flat_getD henc xs i x hx j u hu
set_option maxRecDepth 100000 in
set_option maxHeartbeats 2000000 in
theorem config_own (A : Option Addr) (cap : Nat) (bs : List Nat) (w : World) (hx : Sl encByte 1 w w.heap.size A bs) (hwf : BytesWf bs) :
    Calls Tryz.prog 8 #[.slice A bs.length cap] w fun e w' => (∃ l, e = .returned (cfgV (decode bs) l) ∧ CfgOwn w' (w.heap.size + 1) (decode bs) l) ∧ Below w.heap.size w w' := by
  have hB0 : Below w.heap.size w (w.alloc (.cells (cfgC 0 0 0 0 0 0 0 0 0 (.slice none 0 0) (.slice none 0 0)) 28)) := (Below.refl _ _).alloc (Nat.le_refl _) _
  have hK0 := Blk.new w 28 (cfgC 0 0 0 0 0 0 0 0 0 (.slice none 0 0) (.slice none 0 0))
  go_enter Tryz.func8, Tryz.ntmps8
  go_wp2_with fail
  refine (decode_any A cap bs _ (hx.up hB0) hwf).mono ?_; rintro e w1 ⟨⟨l, rfl, hO⟩, hb⟩
  have hB1 := below_next hB0 hb
  have hK1 := hK0.below hb hK0.lt
  have hz := hK0.lt
  clear hb hK0 hB0
  have hcs := hK1.cell
  have hf := hK1.frozen
  go_wp2
  refine bodyPost_ret (v := cfgV (decode bs) l) (by simp [results, Tryz.results8, go_sem, hcs]) rfl ?_
  have hfin := fun (w2 : World) (h : w1.grownBy w2 (some w.heap.size)) => And.intro (show CfgOwn w2 (w.heap.size + 1) (decode bs) l from by simpa using hO.kept h (fun x e => by injection e with e; simp; omega)) (below_grown hB1 h hB1.size (fun x e => by injection e with e; omega))
  refine ⟨⟨l, rfl, (hfin _ ?_).1⟩, (hfin _ ?_).2⟩
  · repeat' (first | (with_reducible refine grown_set ?_ (.inr rfl)) | (with_reducible exact grown_refl _ _))
  · repeat' (first | (with_reducible refine grown_set ?_ (.inr rfl)) | (with_reducible exact grown_refl _ _))
end Go.Proofs.YtpbkelpokpglaaaGreat
