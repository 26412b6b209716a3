/- Walks: law 30's helpers. -/
import Derived.Test.YtpbkelpokpglaaaGreatInh9
import Derived.Test.YtpbkelpokpglaaaGreatInts
import Derived.Deep.RegionHeld3
set_option linter.all false
namespace Go.Proofs.YtpbkelpokpglaaaGreat
open Go.RowKit Go.Maps
theorem cell_alloc_lt (w : World) (o : Obj) (b i : Nat) (h : b < w.heap.size) : (w.alloc o).cell? ⟨b, i, none⟩ = w.cell? ⟨b, i, none⟩ := ((Below.refl w.heap.size w).alloc (Nat.le_refl _) o).cell (p := ⟨b, i, none⟩) h
def cfg4 : Cfg := { decode [] with levels := 3, tasks := 4 }
/-- A configuration is handed back. -/
def CfgPI (w : World) (c : Cfg) (e : Ending) (w' : World) : Prop := (∃ l, e = .returned (cfgV c l) ∧ CfgIn w' w'.heap.size c l) ∧ Below w.heap.size w w'
theorem CfgIn.same {w : World} {B : Nat} {c c' : Cfg} {l : CfgAt} (h : CfgIn w B c l) (h1 : c.progs = c'.progs) (h2 : c.subs = c'.subs) : CfgIn w B c' l := ⟨h1 ▸ h.1, h2 ▸ h.2⟩
set_option maxRecDepth 100000 in
set_option maxHeartbeats 1000000 in
theorem four_any (w : World) : Calls Tryz.prog 41 #[] w (CfgPI w cfg4) := by
  have hE : Below w.heap.size w (w.alloc (.cells #[.int .i64 0, .int .i64 0, .int .i64 0, .int .i64 0, .int .i64 0, .int .i64 0, .int .i64 0, .int .i64 0, .int .i64 0, .slice none 0 0, .slice none 0 0] 28)) := (Below.refl _ _).alloc (Nat.le_refl _) _
  go_enter Tryz.func41, Tryz.ntmps41
  go_wp2_with fail
  refine (config_own none 0 [] _ Sl.nil (fun i => by simp [byt])).mono ?_; rintro e w1 ⟨⟨q, rfl, hd⟩, hb⟩
  have hb1 := below_next hE hb
  have hK := (Blk.new w 28 (cfgC 0 0 0 0 0 0 0 0 0 (.slice none 0 0) (.slice none 0 0))).below hb (by simp)
  have hlg := hK.lt
  obtain ⟨d, hdd⟩ : ∃ d, d = decode [] := ⟨_, rfl⟩
  have H4 : Hid (cfg4 = { d with levels := 3, tasks := 4 }) := by rw [Hid, hdd]; rfl
  rw [← hdd] at hd ⊢
  clear hdd hb
  have hKA := hK.alloc (.cells (cfgC d.workers 3 d.classes 4 d.deque d.heap d.batch d.age d.patience (.slice q.pa d.progs.length q.pc) (.slice q.sa d.subs.length q.sc)) 28)
  have hcs := hKA.cell
  have hfz := hKA.frozen
  have hcs1 := hK.cell
  have hfz1 := hK.frozen
  have hfin := fun (w2 : World) (h : w1.grownBy w2 (some w.heap.size)) => And.intro (hd.kept h (fun x e => by injection e with e; simp; omega)).cfgIn (below_grown hb1 h hb1.size (fun x e => by injection e with e; omega))
  unfold cfgV
  go_wp2_with fail
  refine bodyPost_ret (v := cfgV { d with levels := 3, tasks := 4 } q) (by simp [results, Tryz.results41, go_sem, cell_alloc_lt, hlg, hcs1]) rfl ?_
  refine ⟨⟨q, by rw [H4.out], ?_⟩, (hfin _ ?_).2⟩
  · rw [H4.out]
    refine CfgIn.same (hfin _ ?_).1 rfl rfl
    repeat' (first | (with_reducible refine grown_set ?_ (.inr rfl)) | with_reducible (first | exact grown_refl _ _ | refine grown_alloc ?_))
  · repeat' (first | (with_reducible refine grown_set ?_ (.inr rfl)) | with_reducible (first | exact grown_refl _ _ | refine grown_alloc ?_))
end Go.Proofs.YtpbkelpokpglaaaGreat
