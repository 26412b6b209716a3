/- Plain safety, 10: the configuration that is decoded; scripts. Plain safety, 11: scripts. Plain safety, 12: MeasureScripts answers true. -/
import Derived.Test.YtpbkelpokpglaaaGreatKA
import Derived.Test.YtpbkelpokpglaaaGreatKv
import Derived.Test.YtpbkelpokpglaaaGreatDec2
import Derived.Test.YtpbkelpokpglaaaGreatKx
set_option linter.all false
namespace Go.Proofs.YtpbkelpokpglaaaGreat
section
open Go
def InsOk (x : Ins) : Prop := Rg x.a ∧ Rg x.b ∧ (x.op ≠ 0 → x.op ≠ 1 → 0 ≤ x.a)
theorem instr_ok (bs : List Nat) {n lv : Int} (hn : 1 ≤ n ∧ n ≤ 10) (hl : 1 ≤ lv ∧ lv ≤ 10) (a : Nat) : InsOk (decInstr bs n lv a).1 := by
  have h1 := rd_rng (bs := bs) (at_ := a + 1) (k := 4) (by decide)
  have h2 := rd_rng (bs := bs) (at_ := a + 1) hn.1
  have h3 := rd_rng (bs := bs) (at_ := a + 2) hl.1
  unfold decInstr InsOk
  split
  · exact ⟨by show Rg (1 + rd bs (a + 1) 4); unfold Rg; omega, by show Rg 0; (first | with_reducible assumption | with_reducible exact rg_wi _ | (unfold Rg; omega)), fun _ _ => by show 0 ≤ 1 + rd bs (a + 1) 4; omega⟩
  · split
    · exact ⟨by show Rg (rd bs (a + 1) n); unfold Rg; omega, by show Rg (rd bs (a + 2) lv); unfold Rg; omega, fun _ _ => h2.1⟩
    · exact ⟨by show Rg (rd bs (a + 1) 4); unfold Rg; omega, by show Rg 0; (first | with_reducible assumption | with_reducible exact rg_wi _ | (unfold Rg; omega)), fun _ _ => h1.1⟩
theorem prog_ok (bs : List Nat) {n lv : Int} (hn : 1 ≤ n ∧ n ≤ 10) (hl : 1 ≤ lv ∧ lv ≤ 10) : ∀ (j a : Nat) (acc : List Ins), (∀ x ∈ acc, InsOk x) → ∀ x ∈ (decProg bs n lv j a acc).1, InsOk x
  | 0, _, _, h => h
  | j + 1, a, acc, h => prog_ok bs hn hl j _ _ fun x hx => by
    rcases List.mem_append.1 hx with hx | hx
    · exact h x hx
    · rw [List.mem_singleton] at hx; rw [hx]; exact instr_ok bs hn hl a
theorem progs_ok (bs : List Nat) {n lv : Int} (hn : 1 ≤ n ∧ n ≤ 10) (hl : 1 ≤ lv ∧ lv ≤ 10) : ∀ (j a : Nat) (acc : List (List Ins)), (∀ p ∈ acc, ∀ x ∈ p, InsOk x) → ∀ p ∈ (decProgs bs n lv j a acc).1, ∀ x ∈ p, InsOk x
  | 0, _, _, h => h
  | j + 1, a, acc, h => progs_ok bs hn hl j _ _ fun p hp => by
    rcases List.mem_append.1 hp with hp | hp
    · exact h p hp
    · rw [List.mem_singleton] at hp; rw [hp]; exact prog_ok bs hn hl _ _ _ fun x hx => by cases hx
theorem subs_ok (bs : List Nat) {n lv : Int} (hn : 1 ≤ n ∧ n ≤ 10) (hl : 1 ≤ lv ∧ lv ≤ 10) : ∀ (j a : Nat) (acc : List Sub), (∀ s ∈ acc, Rg s.level ∧ Rg s.deadline ∧ Rg s.prog) → (∀ s ∈ decSubs bs n lv j a acc, Rg s.level ∧ Rg s.deadline ∧ Rg s.prog) ∧ (decSubs bs n lv j a acc).length = acc.length + j
  | 0, _, _, h => ⟨h, rfl⟩
  | j + 1, a, acc, h => by
    have h1 := rd_rng (bs := bs) (at_ := a) hn.1
    have h2 := rd_rng (bs := bs) (at_ := a + 1) hl.1
    have h3 := rd_rng (bs := bs) (at_ := a + 2) (k := 16) (by decide)
    have := subs_ok bs hn hl j (a + 3) (acc ++ [⟨rd bs a n, rd bs (a + 1) lv, rd bs (a + 2) 16⟩]) fun x hx => by
      rcases List.mem_append.1 hx with hx | hx
      · exact h x hx
      · rw [List.mem_singleton] at hx; rw [hx]
        exact ⟨by show Rg (rd bs (a + 1) lv); unfold Rg; omega, by show Rg (rd bs (a + 2) 16); unfold Rg; omega, by show Rg (rd bs a n); unfold Rg; omega⟩
    exact ⟨this.1, by rw [decSubs, this.2]; simp; omega⟩
theorem decode_ok (bs : List Nat) : CfgOk (decode bs) ∧ (decode bs).subs.length ≤ 5 ∧ (decode bs).workers ≤ 4 := by
  have h0 := rd_rng (bs := bs) (at_ := 0) (k := 4) (by decide)
  have h1 := rd_rng (bs := bs) (at_ := 1) (k := 4) (by decide)
  have h3 := rd_rng (bs := bs) (at_ := 3) (k := 12) (by decide)
  have h4 := rd_rng (bs := bs) (at_ := 4) (k := 4) (by decide)
  have h9 := rd_rng (bs := bs) (at_ := 9) (k := 4) (by decide)
  have hl : 1 ≤ decLv bs ∧ decLv bs ≤ 10 := by unfold decLv; omega
  have hn : 1 ≤ decN bs ∧ decN bs ≤ 10 := by unfold decN; omega
  have hc : 1 ≤ (if decLv bs < 3 then decLv bs else 3) ∧ (if decLv bs < 3 then decLv bs else 3) ≤ 3 := by split <;> omega
  have h2 := rd_rng (bs := bs) (at_ := 2) hc.1
  have h6 := rd_rng (bs := bs) (at_ := (decPs bs).2) (k := 6) (by decide)
  have hs := subs_ok bs hn hl (rd bs (decPs bs).2 6).toNat ((decPs bs).2 + 1) [] fun s hs => by cases hs
  have hsl : (decode bs).subs.length ≤ 5 := by
    show (decSubs bs (decN bs) (decLv bs) (rd bs (decPs bs).2 6).toNat ((decPs bs).2 + 1) []).length ≤ 5
    rw [hs.2]; simp; omega
  refine ⟨⟨?_, ?_, hl.1, ?_, ?_, ?_, ?_, ?_, ?_, ?_, by omega, hs.1, ?_⟩, hsl, ?_⟩
  · show 1 ≤ 1 + rd bs 0 4; omega
  · show 1 + rd bs 0 4 ≤ 64; omega
  · show decLv bs ≤ 64; omega
  · show 1 ≤ 1 + rd bs 2 _; omega
  · show 1 + rd bs 2 _ ≤ 64; omega
  · show 1 ≤ 1 + rd bs 3 12; omega
  · show 1 + rd bs 3 12 ≤ 65535; omega
  · show 0 ≤ 1 + rd bs 4 4; omega
  · show 1 + rd bs 4 4 ≤ 65535; omega
  · exact progs_ok bs hn hl _ _ _ fun p hp => by cases hp
  · show 1 + rd bs 0 4 ≤ 4; omega
end
section
open Go
def EntsR (es : List EntV) : Prop := ∀ e ∈ es, Rg e.value
theorem EntsR.app {a b : List EntV} (h : EntsR a) (k : EntsR b) : EntsR (a ++ b) := fun e he => (List.mem_append.1 he).elim (h e) (k e)
theorem EntsR.one {e : EntV} (h : Rg e.value) : EntsR [e] := fun x hx => by rw [List.mem_singleton] at hx; rw [hx]; exact h
theorem decl_good (b : List Nat) (hb : b.length ≤ 100000) : ∀ (k : Nat) (y : List EntV × Int), y.2 = 2 * (y.1.length : Int) → y.1.length ≤ 65536 → (b.length : Int) < y.2 + 2 * k → EntsR y.1 → 1 ≤ k → Good (r4decode_l1 b k y) fun z => EntsR z.1 ∧ z.1.length ≤ 65536
  | 0, y, _, _, _, _, h => by omega
  | k + 1, y, h0, h1, h2, he, _ => by
    have e1 : wi (y.2 + 1) = y.2 + 1 := wi_id (by unfold Rg; omega)
    have e2 : wi (y.2 + 2) = y.2 + 2 := wi_id (by unfold Rg; omega)
    rw [r4decode_l1, e1, e2]
    refine Good.ite (fun hlt => Good.ite (fun hm => ?_) fun _ => .some_ ⟨he, h1⟩) fun _ => .some_ ⟨he, h1⟩
    have step : ∀ v : EntV, Rg v.value → Good (r4decode_l1 b k ((y.1 ++ [v]), y.2 + 2)) fun z => EntsR z.1 ∧ z.1.length ≤ 65536 := fun v hv =>
      decl_good b hb k _ (by simp; omega) (by simp; omega) (by dsimp only; omega) (he.app (EntsR.one hv)) (by omega)
    refine .guard (by omega) fun _ => .guard (by omega) fun _ => Good.ite (fun _ => .guard (by omega) fun _ => step _ (by show Rg 0; (first | with_reducible assumption | with_reducible exact rg_wi _ | (unfold Rg; omega)))) fun _ => Good.ite (fun _ => .guard (by omega) fun _ => step _ (by show Rg 0; (first | with_reducible assumption | with_reducible exact rg_wi _ | (unfold Rg; omega)))) fun _ => .guard (by omega) fun _ => step _ (rg_wi _)
theorem script_good (b : List Nat) (hb : b.length ≤ 100000) {n : Int} (h0 : 0 ≤ n) : Good (kscript_s b n) fun es => EntsR es ∧ (es.length : Int) ≤ n := by
  unfold kscript_s r4decode_s
  have hd := decl_good b hb (b.length + 1) ([], 0) rfl (Nat.zero_le _) (by dsimp only; omega) (fun e he => by cases he) (by omega)
  refine Good.bind (P := fun es => EntsR es) (hd.bind fun z hz => .some_ hz.1) fun es he => Good.ite (fun h => .guard (by omega) fun _ => .some_ ⟨fun e h2 => he e (List.mem_of_mem_take h2), by simp; omega⟩) fun h => .some_ ⟨he, by omega⟩
theorem offl_good (c : Cfg) (hc : c.subs.length ≤ 1000) (hw : Rg c.workers) : ∀ (k : Nat) (y : List EntV × Int), y.2 = (y.1.length : Int) → y.1.length ≤ 40 * c.subs.length → 40 * c.subs.length < y.1.length + k → EntsR y.1 → Good (koffers_l1 c k y) fun z => EntsR z.1 ∧ z.1.length = 40 * c.subs.length
  | 0, y, _, h1, h2, _ => by omega
  | k + 1, y, h0, h1, h2, he => by
    have e1 : wi (40 * ((c.subs.length : Nat) : Int)) = 40 * ((c.subs.length : Nat) : Int) := wi_id (by unfold Rg; omega)
    have e2 : wi (y.2 + 1) = y.2 + 1 := wi_id (by unfold Rg; omega)
    rw [koffers_l1, e1, e2]
    refine Good.ite (fun hlt => .guard (by omega) fun _ => ?_) fun hlt => .some_ ⟨he, by dsimp only; omega⟩
    exact offl_good c hc hw k _ (by simp; omega) (by simp; omega) (by simp; omega) (he.app (EntsR.one hw))
theorem offers_good (c : Cfg) (hc : c.subs.length ≤ 1000) (hw : Rg c.workers) : Good (koffers_s c) fun es => EntsR es ∧ es.length = 40 * c.subs.length := by
  unfold koffers_s
  exact (offl_good c hc hw (40 * c.subs.length + 1) ([], 0) rfl (Nat.zero_le _) (by simp) (fun e he => by cases he)).bind fun z hz => .some_ hz
theorem number_good {l : List Int} {i n : Int} (hl : l.length ≤ 100000) (h0 : 0 ≤ i) (h1 : i ≤ 1000000000) (hn : Rg n) : Good (knumber_s l i n) fun v => Rg v ∧ 0 ≤ v ∧ (1 ≤ n → v < n) := by
  unfold knumber_s
  refine Good.ite (fun _ => .some_ ⟨by (first | with_reducible assumption | with_reducible exact rg_wi _ | (unfold Rg; omega)), by omega, fun _ => by omega⟩) fun hz => ?_
  have a1 := Int.tmod_lt_of_pos i (b := ((l.length : Nat) : Int)) (by omega)
  have a2 := Int.tmod_nonneg ((l.length : Nat) : Int) h0
  have b1 : 0 ≤ Int.tdiv i ((l.length : Nat) : Int) := Int.tdiv_nonneg h0 (by omega)
  have b2 : Int.tdiv i ((l.length : Nat) : Int) ≤ i := Int.tdiv_le_self _ h0
  have e1 : wi (Int.tdiv i ((l.length : Nat) : Int)) = Int.tdiv i ((l.length : Nat) : Int) := wi_id (by unfold Rg; omega)
  have c1 := Int.tmod_lt_of_pos (Int.tdiv i ((l.length : Nat) : Int)) (b := 7) (by decide)
  have c2 := Int.tmod_nonneg 7 b1
  have e2 : wi (1 + Int.tmod (Int.tdiv i ((l.length : Nat) : Int)) 7) = 1 + Int.tmod (Int.tdiv i ((l.length : Nat) : Int)) 7 := wi_id (by unfold Rg; omega)
  rw [e1, e2]
  refine .guard hz fun _ => .guard ⟨a2, a1⟩ fun _ => .guard hz fun _ => .guard (by omega) fun _ => ?_
  exact (draw_good _ n (rg_wi _) hn).bind fun v hv => .some_ hv
theorem insert_good' {l : List EntV} {e : EntV} {a : Int} (hl : EntsR l) (he : Rg e.value) (h0 : 0 ≤ a) (h1 : a ≤ (l.length : Int)) (hn : l.length ≤ 1000000) : Good (kinsert_s l e a) fun es => EntsR es ∧ es.length = l.length + 1 := by
  unfold kinsert_s
  refine .guard ⟨h0, h1⟩ fun _ => .guard (by simp; omega) fun _ => .guard (by simp; omega) fun _ => .guard (by simp; omega) fun _ => .some_ ⟨?_, by simp; omega⟩
  exact EntsR.app (EntsR.app (fun x hx => hl x (List.mem_of_mem_take hx)) (EntsR.one he)) fun x hx => hl x (List.mem_of_mem_drop hx)
section
variable {raw : List Int} {at0 ms : Int}
theorem roundl1_good (hr : raw.length ≤ 100000) (ha : 0 ≤ at0 ∧ at0 ≤ 1000000) (hm : 1 ≤ ms ∧ ms ≤ 1000) : ∀ (k : Nat) (y : List EntV × Int), y.2 = (y.1.length : Int) → y.2 ≤ ms → ms < y.2 + k → EntsR y.1 → Good (kround_l1 raw at0 ms k y) fun z => EntsR z.1 ∧ (z.1.length : Int) = ms
  | 0, y, _, h1, h2, _ => by omega
  | k + 1, y, h0, h1, h2, he => by
    have e1 : wi (y.2 + 1) = y.2 + 1 := wi_id (by unfold Rg; omega)
    have e2 : wi (at0 + y.2) = at0 + y.2 := wi_id (by unfold Rg; omega)
    rw [kround_l1, e1, e2]
    refine Good.ite (fun hlt => ?_) fun hlt => .some_ ⟨he, by dsimp only; omega⟩
    refine (number_good hr (by omega) (by omega) (by unfold Rg; omega)).bind fun v hv => (insert_good' he (by show Rg y.2; unfold Rg; omega) hv.2.1 (by have := hv.2.2 (by omega); omega) (by omega)).bind fun es hes => ?_
    exact roundl1_good hr ha hm k _ (by have := hes.2; dsimp only; omega) (by dsimp only; omega) (by dsimp only; omega) hes.1
theorem roundl2_good (hr : raw.length ≤ 100000) (ha : 0 ≤ at0 ∧ at0 ≤ 1000000) (hm : 1 ≤ ms ∧ ms ≤ 1000) : ∀ (k : Nat) (y : List EntV × Int), 0 ≤ y.2 → y.2 ≤ 3 → y.2 < k → (y.1.length : Int) + y.2 ≤ 2000 → EntsR y.1 → Good (kround_l2 raw at0 ms k y) fun z => EntsR z.1 ∧ z.1.length ≤ 2000
  | 0, y, h1, _, h2, _, _ => by omega
  | k + 1, y, h0, h3, h1, h2, he => by
    have e1 : wi (y.2 - 1) = y.2 - 1 := wi_id (by unfold Rg; omega)
    have e2 : wi (at0 + y.2) = at0 + y.2 := wi_id (by unfold Rg; omega)
    have e3 : wi (at0 + ms) = at0 + ms := wi_id (by unfold Rg; omega)
    have e4 : wi (at0 + ms + y.2) = at0 + ms + y.2 := wi_id (by unfold Rg; omega)
    have e5 : wi (((y.1.length : Nat) : Int) + 1) = ((y.1.length : Nat) : Int) + 1 := wi_id (by unfold Rg; omega)
    rw [kround_l2, e1, e2, e3, e4, e5]
    refine Good.ite (fun hlt => ?_) fun hlt => .some_ ⟨he, by dsimp only; omega⟩
    refine (number_good hr (by omega) (by omega) (by unfold Rg; omega)).bind fun v hv => (number_good hr (by omega) (by omega) (by unfold Rg; omega)).bind fun u hu => (insert_good' (e := kpick_s v) he hv.1 hu.2.1 (by have := hu.2.2 (by omega); omega) (by omega)).bind fun es hes => ?_
    exact roundl2_good hr ha hm k _ (by dsimp only; omega) (by dsimp only; omega) (by dsimp only; omega) (by have := hes.2; dsimp only; omega) hes.1
theorem round_good (hr : raw.length ≤ 100000) (ha : 0 ≤ at0 ∧ at0 ≤ 1000000) (hm : 1 ≤ ms ∧ ms ≤ 1000) : Good (kround_s raw at0 ms) fun es => EntsR es ∧ es.length ≤ 2000 := by
  have e3 : wi (at0 + ms) = at0 + ms := wi_id (by unfold Rg; omega)
  have e4 : wi (at0 + ms + 1) = at0 + ms + 1 := wi_id (by unfold Rg; omega)
  have e5 : wi (ms + 1) = ms + 1 := wi_id (by unfold Rg; omega)
  unfold kround_s
  rw [e3, e4, e5]
  refine (roundl1_good hr ha hm (ms.toNat + 1) ([], 0) rfl (by dsimp only; omega) (by dsimp only; omega) (fun e he => by cases he)).bind fun z hz => ?_
  refine (number_good hr (by omega) (by omega) (by unfold Rg; omega)).bind fun v hv => (insert_good' (e := (⟨1, 0⟩ : EntV)) hz.1 (by show Rg 0; (first | with_reducible assumption | with_reducible exact rg_wi _ | (unfold Rg; omega))) hv.2.1 (by have := hv.2.2 (by omega); have := hz.2; omega) (by have := hz.2; omega)).bind fun es hes => ?_
  refine (number_good hr (by omega) (by omega) (by (first | with_reducible assumption | with_reducible exact rg_wi _ | (unfold Rg; omega)))).bind fun u hu => ?_
  have hu3 := hu.2.2 (by decide)
  exact (roundl2_good hr ha hm 4 (es, u) hu.2.1 (by dsimp only; omega) (by dsimp only; omega) (by have := hes.2; have := hz.2; dsimp only; omega) hes.1).bind fun w hw => .some_ hw
end
end
section
open Go
section
variable {b : List Nat} {raw : List Int}
theorem ms_loop (hr : raw.length ≤ 400) : ∀ (k : Nat) (i K : Nat) (y : Int × Int × (List Ev) × AccV × MemV × (List MaV) × Int × (List RecV) × (List Int) × Int), y.1 = (i : Int) → i ≤ 60 → 60 < i + k → 1 ≤ K → K + 10000 * (60 - i) ≤ 800000 →
    EngP K (decode b) y.2.2.2.2.2.2.1 y.2.1 y.2.2.2.2.2.2.2.1 y.2.2.1 y.2.2.2.2.2.1 y.2.2.2.2.2.2.2.2.1 →
    Good (msScripts_l1 b raw k y) fun z => EngP 800000 (decode b) z.2.2.2.2.2.2.1 z.2.1 z.2.2.2.2.2.2.2.1 z.2.2.1 z.2.2.2.2.2.1 z.2.2.2.2.2.2.2.2.1
  | 0, i, K, y, _, h1, h2, _, _, _ => by omega
  | k + 1, i, K, y, hi, h1, h2, hK1, hK, h => by
    obtain ⟨hc, hsl, hw⟩ := decode_ok b
    have hw1 := hc.w1
    have e1 : wi (5 * y.1) = 5 * y.1 := wi_id (by unfold Rg; omega)
    have e2 : wi ((decode b).workers + 1) = (decode b).workers + 1 := wi_id (by unfold Rg; omega)
    have e3 : wi (y.1 + 1) = ((i + 1 : Nat) : Int) := by rw [wi_id (by unfold Rg; omega)]; omega
    rw [msScripts_l1, e1, e2]
    refine Good.ite (fun _ => Good.ite (fun h60 => ?_) fun _ => .some_ (h.le (by omega))) fun _ => .some_ (h.le (by omega))
    refine (round_good (by omega) (by omega) (by omega)).bind fun es hes => (run_good' h hes.1 hc (by have := hes.2; omega) hK1 (by have := hes.2; omega)).bind fun o ho => ?_
    exact ms_loop hr k (i + 1) (K + 10000) _ e3 (by omega) (by omega) (by omega) (by omega) (ho.le (by have := hes.2; omega))
theorem msScripts_true (b sc : List Nat) (raw : List Int) : msScripts_s b sc raw = some true := by
  obtain ⟨hc, hsl, hw⟩ := decode_ok b
  have hw1 := hc.w1
  have key : Good (msScripts_s b sc raw) fun o => o = true := by
    unfold msScripts_s
    refine Good.ite (fun _ => .some_ rfl) fun hs => Good.ite (fun _ => .some_ rfl) fun hs2 => ?_
    have hsh : b.length ≤ 400 ∧ raw.length ≤ 400 := by
      simp [shortL] at hs
      omega
    refine (new_good hc).bind fun n hn => (offers_good _ (by omega) (by unfold Rg; omega)).bind fun es1 h1 => (script_good sc (by omega) (n := 400) (by decide)).bind fun es2 h2 => .guard (by have := h1.2; have := h2.2; omega) fun _ => ?_
    have hlen : (es1 ++ es2).length ≤ 600 := by have := h1.2; have := h2.2; simp; omega
    refine (run_good' hn (EntsR.app h1.1 h2.1) hc (by omega) (by omega) (by omega)).bind fun o ho => ?_
    refine (ms_loop (b := b) hsh.2 62 0 3001 (0, o.2.2.1, o.2.2.2.2.1, o.2.2.2.2.2.2.2.2, o.1, o.2.2.2.2.2.1, o.2.1, o.2.2.2.1, o.2.2.2.2.2.2.2.1, o.2.2.2.2.2.2.1) rfl (by omega) (by omega) (by omega) (by omega) (ho.le (by omega))).bind fun z hz => ?_
    refine (events_good hz.st (by have := hz.es.1; omega)).bind fun l hl => .guard ?_ fun _ => .some_ rfl
    have := hz.es.1
    simp only [stOk, Bool.and_eq_true, decide_eq_true_eq, List.all_eq_true]
    exact ⟨by omega, fun s hs => (hz.es.2 _ (hl.2 s hs)).task⟩
  obtain ⟨x, e, rfl⟩ := key
  exact e
end
end
end Go.Proofs.YtpbkelpokpglaaaGreat
