/- From the readings of the arguments to our words: configurations by value, slices. -/
import Derived.Test.YtkfkiaieeiodnaaJop2
namespace Go.Proofs.Ytkfkiaieeiodnaa
open Go.ChangeShapes Go.WideShapes Go.RowKit Go.Deep
set_option maxRecDepth 100000

structure RowAt where
  a : Option Addr
  c : Nat
  p : List Ins
def RowAt.enc (y : RowAt) : List Value := [.slice y.a y.p.length y.c]
section
variable {H : Type} {enc : TypeId × Value → H} {w : World} {base : Nat} {spare : Nat → Bool} {held : Bool}
theorem row_elem (n : Nat) (cs : List Value) (d : DataW H × List MemPlace) (h : DataW.trod enc Try.prog w base spare held n 42 cs = some d) (_ : cs.length = 1) : ∃ y : RowAt, Sl Ins.enc 3 w w.heap.size y.a y.p ∧ cs = y.enc := by
  obtain ⟨A, cap, xs, h1, h2, _, _⟩ := sl_open Try.underlying42 cellsIns (by decide) ins_elem h
  exact ⟨⟨A, cap, xs⟩, h2, h1⟩
theorem progs_open {n : Nat} {cs : List Value} {d : DataW H × List MemPlace} (h : DataW.trod enc Try.prog w base spare held n 22 cs = some d) : ∃ A cap ps, cs = [.slice A ps.length cap] ∧ Progs w w.heap.size A ps := by
  obtain ⟨A, cap, ys, h1, h2, h3, _⟩ := sl_open Try.underlying22 cellsRow (by decide) row_elem h
  refine ⟨A, cap, ys.map (·.p), by simpa using h1, by simpa using h2.len, fun hne => ?_⟩
  obtain ⟨b, o, e, hb, hc⟩ := h2.2 (fun e => hne (by rw [e]; rfl))
  refine ⟨b, o, e, hb, fun i p hp => ?_⟩
  rw [List.getElem?_map] at hp
  cases hy : ys[i]? with
  | none => rw [hy] at hp; cases hp
  | some y =>
    rw [hy] at hp
    injection hp with hp
    subst hp
    have := hc i y hy 0 _ rfl
    rw [Nat.mul_one] at this
    exact ⟨y.a, y.c, this, h3 y (List.mem_of_getElem? hy)⟩
theorem subs_open {n : Nat} {cs : List Value} {d : DataW H × List MemPlace} (h : DataW.trod enc Try.prog w base spare held n 23 cs = some d) : ∃ A cap ss, cs = [.slice A ss.length cap] ∧ Sl Sub.enc 3 w w.heap.size A ss := by
  obtain ⟨A, cap, xs, h1, h2, _, _⟩ := sl_open Try.underlying23 cellsSub (by decide) sub_elem h
  exact ⟨A, cap, xs, h1, h2⟩
theorem cellsCfg : Try.prog.cellsOf 25 = 11 := by kernel_rfl
theorem cellsPs : Try.prog.cellsOf 22 = 1 := by kernel_rfl
theorem cellsSs : Try.prog.cellsOf 23 = 1 := by kernel_rfl
theorem one_at {cs : List Value} {o : Nat} {v : Value} (h : (cs.drop o).take 1 = [v]) : cs[o]? = some v := by
  have := congrArg (fun l : List Value => l[0]?) h
  simpa using this
theorem cfg_open {r : Reach} {b0 : Nat} {v : Value} {d : DataW H} {p : List MemPlace} (hv : Value.okWide Try.prog w r b0 25 v) (h : DataW.Trod enc Try.prog w base spare held 25 v d p) :
    ∃ c l, v = cfgV c l ∧ CfgIn w w.heap.size c l := by
  obtain ⟨cs, rfl, hsz⟩ := okWide_struct Try.underlying25 hv
  obtain ⟨fuel, hf⟩ := h
  obtain ⟨xs, m, _, _, _, hx, hg⟩ := DataW.trod_struct Try.underlying25 hf
  match xs, hx with
  | [x0, x1, x2, x3, x4, x5, x6, x7, x8, x9, x10], _ =>
    obtain ⟨a0, _, e0⟩ := int_field (hg 0 _ rfl)
    obtain ⟨a1, _, e1⟩ := int_field (hg 1 _ rfl)
    obtain ⟨a2, _, e2⟩ := int_field (hg 2 _ rfl)
    obtain ⟨a3, _, e3⟩ := int_field (hg 3 _ rfl)
    obtain ⟨a4, _, e4⟩ := int_field (hg 4 _ rfl)
    obtain ⟨a5, _, e5⟩ := int_field (hg 5 _ rfl)
    obtain ⟨a6, _, e6⟩ := int_field (hg 6 _ rfl)
    obtain ⟨a7, _, e7⟩ := int_field (hg 7 _ rfl)
    obtain ⟨a8, _, e8⟩ := int_field (hg 8 _ rfl)
    obtain ⟨pa, pc, ps, hp1, hp2⟩ := progs_open (hg 9 _ rfl)
    obtain ⟨sa, sc, ss, hs1, hs2⟩ := subs_open (hg 10 _ rfl)
    have h9 := cellsPs
    have h10 := cellsSs
    replace hp1 : ((Value.agg cs).cells.toList.drop 9).take (Try.prog.cellsOf 22) = [.slice pa ps.length pc] := hp1
    replace hs1 : ((Value.agg cs).cells.toList.drop 10).take (Try.prog.cellsOf 23) = [.slice sa ss.length sc] := hs1
    rw [h9] at hp1
    rw [h10] at hs1
    have e9 := one_at hp1
    have e10 := one_at hs1
    refine ⟨⟨a0, a1, a2, a3, a4, a5, a6, a7, a8, ps, ss⟩, ⟨pa, pc, sa, sc⟩, ?_, hp2, hs2⟩
    obtain ⟨l⟩ := cs
    have hl : l.length = 11 := hsz.trans cellsCfg
    match l, hl with
    | [y0, y1, y2, y3, y4, y5, y6, y7, y8, y9, y10], _ =>
      simp [Value.cells] at e0 e1 e2 e3 e4 e5 e6 e7 e8 e9 e10
      subst e0 e1 e2 e3 e4 e5 e6 e7 e8 e9 e10
      rfl
theorem slice_val {t e : TypeId} {r : Reach} {b0 : Nat} {v : Value} {A : Option Addr} {n cap : Nat} (ht : Try.prog.underlying t = some (.slice e)) (hv : Value.okWide Try.prog w r b0 t v) (h1 : v.cells.toList = [.slice A n cap]) : v = .slice A n cap := by
  obtain ⟨a, len, c, rfl⟩ := okWide_slice ht hv
  simp [Value.cells] at h1
  rw [h1.1, h1.2.1, h1.2.2]
theorem bytes_open {v : Value} {d : DataW H} {p : List MemPlace} {r : Reach} {b0 : Nat} (hv : Value.okWide Try.prog w r b0 30 v) (h : DataW.Trod enc Try.prog w base spare held 30 v d p) : ∃ A cap l, v = .slice A l.length cap ∧ Sl encByte 1 w w.heap.size A l ∧ BytesWf l := by
  obtain ⟨fuel, hf⟩ := h
  obtain ⟨A, cap, xs, h1, h2, h3, _⟩ := sl_open Try.underlying30 cellsByte (by decide) byte_elem hf
  refine ⟨A, cap, xs, slice_val Try.underlying30 hv h1, h2, fun i => ?_⟩
  by_cases hi : i < xs.length
  · rw [byt_get hi]; exact h3 _ (List.getElem_mem hi)
  · simp [byt, List.getD, List.getElem?_eq_none (Nat.le_of_not_lt hi)]
theorem words_open {v : Value} {d : DataW H} {p : List MemPlace} {r : Reach} {b0 : Nat} (hv : Value.okWide Try.prog w r b0 26 v) (h : DataW.Trod enc Try.prog w base spare held 26 v d p) : ∃ A cap l, v = .slice A l.length cap ∧ Sl encU 1 w w.heap.size A l ∧ CWf l ∧ l.length ≤ cap := by
  obtain ⟨fuel, hf⟩ := h
  obtain ⟨A, cap, xs, h1, h2, h3, h4⟩ := sl_open Try.underlying26 cellsWord (by decide) word_elem hf
  refine ⟨A, cap, xs, slice_val Try.underlying26 hv h1, h2, fun i => ?_, h4⟩
  by_cases hi : i < xs.length
  · exact h3 _ (List.mem_iff_getElem?.2 ⟨i, gi_get hi⟩)
  · simp [gi, List.getElem?_eq_none (Nat.le_of_not_lt hi)]
end
end Go.Proofs.Ytkfkiaieeiodnaa
