/- slices.Clone at the slices of a configuration, in the evaluator's words. Walks: the checks of a configuration (config and its reference), function by function. Walks: the checks of a configuration's programs and submissions (config). Walks: the check of a configuration (its reference), and whether it is small. Walks: the bound (bound.parts, bound.Bound and the reference's Bound). Walks: bound.Bound and the reference's Bound. Walk: script.Rounds of no entries. Contracts of the checks and of the bound, in the evaluator's words. The engine made anew, in the evaluator's form. The laws on the bound, in the evaluator's form. The sanity check of the laws on the bound holds. The laws BoundFormula and BoundGrows answer true. From the readings of the arguments to our words: truth values, arrays of seven numbers. -/
import Derived.Test.YtnfblhckpmofcaaGreatQfah
import Derived.Test.YtnfblhckpmofcaaGreatRows
import Derived.Test.YtnfblhckpmofcaaGreatQfaa
import Derived.OwnWalk
import Derived.WalkMore
import Derived.Handy
import Derived.Carry
set_option linter.all false
namespace Go.Proofs.YtnfblhckpmofcaaGreat
section
open Go Go.RowKit
noncomputable def cloneIns (l : List Ins) : Option ((List Ins × Unit) × Unit) := if l.length ≤ 1000000 then some ((l, ()), ()) else none
noncomputable abbrev cloneIns_k : Con SR1 := ⟨67, [.sh (.ro 3)], [.sh (.row 3)], fun x => cloneIns x.1⟩
noncomputable def cloneSubs (l : List Sub) : Option ((List Sub × Unit) × Unit) := if l.length ≤ 1000000 then some ((l, ()), ()) else none
noncomputable abbrev cloneSubs_k : Con SR1 := ⟨68, [.sh (.ro 4)], [.sh (.row 4)], fun x => cloneSubs x.1⟩
/-- A function that makes a row of its own out of a list. -/
theorem co_clone {f : FuncId} (hf : Nat.blt f mBase = true) {c sz : Nat} {el : TypeId} (hp : ∀ x, pureB (SR1.kt.vw c x) = true) (hsz : SR1.kt.sz c = sz) {spec : List (SR1.T c) → Option ((List (SR1.T c) × Unit) × Unit)} (hspec : ∀ l o, spec l = some o → o = ((l, ()), ()) ∧ l.length ≤ 1000000)
    (h : ∀ (A : Option Addr) (cap : Nat) (xs : List (SR1.T c)) (w : World), Sl (encF SR1.kt c) sz w w.heap.size A xs → xs.length ≤ 1000000 → Calls Tryz.prog f #[.slice A xs.length cap] w (CloneP (encF SR1.kt c) sz el w xs)) :
    CO Tryz.prog ⟨f, [.sh (.ro c)], [.sh (.row c)], fun x => spec x.1⟩ := fun x out hx B W vs F w hw => by
  obtain ⟨hb, hB, hs⟩ := hw
  obtain ⟨ho, hl⟩ := hspec x.1 out hx
  subst ho
  show CallsM Tryz.prog f _ w _
  rw [callsM_fn hf]
  rcases vs with _ | ⟨v, _ | ⟨v2, vs⟩⟩
  · exact sat_false hs
  · replace hs : Sat B w [pcS SR1.kt (.ro c x.1) v, F] := hs
    obtain ⟨A, cap, rfl, hsl⟩ := sat_ro hs
    have s1 := hs.drop
    rw [hsz] at hsl
    refine (h A cap x.1 w hsl hl).mono fun e w' ⟨⟨A', c', he, hown⟩, hb'⟩ => ⟨[.slice A' (List.length x.1) c'], he, hb.trans (hb'.mono hB), Nat.le_trans hB hb'.size, ?_⟩
    have s2 := sat_new_row s1 hb' hB hown
    rw [← hsz] at s2
    exact sat_row_plain hp s2
  · replace hs : Sat B w (pcS SR1.kt (.ro c x.1) v :: ([fun _ => False] ++ [F])) := hs
    exact sat_false hs.drop
theorem cloneIns_ok : CO Tryz.prog cloneIns_k := co_clone rfl (c := 3) (sz := 3) (fun _ => rfl) rfl (spec := cloneIns) (fun l o h => by
  unfold cloneIns at h
  split at h
  · rename_i hl; cases h; exact ⟨rfl, hl⟩
  · cases h) fun A cap xs w hx hn => cloneIns_any A cap xs w hx hn
theorem cloneSubs_ok : CO Tryz.prog cloneSubs_k := co_clone rfl (c := 4) (sz := 3) (fun _ => rfl) rfl (spec := cloneSubs) (fun l o h => by
  unfold cloneSubs at h
  split at h
  · rename_i hl; cases h; exact ⟨rfl, hl⟩
  · cases h) fun A cap xs w hx hn => cloneSubs_any A cap xs w hx hn
/-! ### The outer slice -/
noncomputable def cloneRows (l : List (List Ins)) : Option ((List (List Ins) × Unit) × Unit) := if l.length ≤ 1000000 then some ((l, ()), ()) else none
noncomputable abbrev cloneRows_k : Con SR1 := ⟨66, [.sh (.rr 3)], [.sh (.row 18)], fun x => cloneRows x.1⟩
def hdrs (xss : List (List Ins)) (ps : List (Option Addr × Nat)) : List (Option Addr × Nat × Nat) := List.zipWith (fun xs a => (a.1, xs.length, a.2)) xss ps
theorem look_rows {Φ : World → Prop} {L : List SProp} : ∀ (xss : List (List Ins)) (ps : List (Option Addr × Nat)), xss.length = ps.length → (∀ u, Φ u → ∀ (i : Nat) xs a, xss[i]? = some xs → ps[i]? = some a → Sl (encF SR1.kt 3) 3 u u.heap.size a.1 xs ∧ xs.length ≤ a.2) →
    Ent (lookS Φ :: L) (rwsS SR1.kt (pcS SR1.kt) 18 xss ((hdrs xss ps).map encSl) ++ lookS Φ :: L)
  | [], [], _, _ => Ent.refl
  | [], _ :: _, h, _ => by cases h
  | _ :: _, [], h, _ => by cases h
  | xs :: xss, a :: ps, hl, hΦ => by
    have ih := look_rows (Φ := Φ) (L := L) xss ps (by simpa using hl) fun u hu i ys b h1 h2 => hΦ u hu (i + 1) ys b h1 h2
    refine look_dup.trans (fun h hs => ?_)
    have h1 := star_tail (A := lookS Φ) ih hs
    refine star_head (A' := pcS SR1.kt (.ro 3 xs) (.slice a.1 xs.length a.2)) (fun k hk => ?_) h1
    refine pcS_iff.2 (show pcW SR1.kt (obS SR1.kt) (rwS SR1.kt) (.ro 3 xs) (.slice a.1 xs.length a.2) k from ⟨a.1, a.2, rfl, ?_⟩)
    exact look_mono (fun u hu => hΦ u hu 0 xs a rfl rfl) _ hk
theorem rows_fin {B : Nat} {w : World} {A R F : SProp} {N : List SProp} (s : Sat B w (N ++ A :: [R, F])) : Sat B w ((R :: N) ++ [A, F]) := s.perm (perm_cnt fun f g h1 h2 h3 => by simp only [List.cons_append, h1, h2, h3]; omega)
theorem cloneRows_aux (xss : List (List Ins)) (hl : xss.length ≤ 1000000) (B : Nat) (W : World) (v : Value) (F : SProp) (w : World) (hw : Cls B W [pcS SR1.kt (.rr 3 xss) v, F] w) :
    Calls Tryz.prog cloneRows_k.f #[v] w fun e w' => ∃ u, e = .returned u ∧ Cls B W [pcS SR1.kt (.row 18 xss) u, F] w' := by
  obtain ⟨hb, hB, hs⟩ := hw
  have s1 : Sat B w ((fun h => ∃ A cap, v = .slice A xss.length cap ∧ rrS (encF SR1.kt 3) (SR1.kt.sz 3) A cap xss h) :: [F]) := sat_head (pc_cases (S := SR1) (f := .rr 3 xss) (fun _ h => h) fun _ _ h => h) hs
  obtain ⟨h, H, k1, k2, a, e, ⟨A, cap, rfl, ps0, h1⟩, h2⟩ := s1
  have s2 : Sat B w (lookS _ :: [F]) := ⟨h, H, k1, k2, a, e, h1, h2⟩
  have h3 := look_sat s2 List.mem_cons_self
  have hps : xss.length ≤ ps0.length := by
    rcases Nat.eq_zero_or_pos xss.length with h0 | h0
    · omega
    · obtain ⟨a, ha, _⟩ := h3.2 (xss.length - 1) _ (List.getElem?_eq_getElem (Nat.sub_lt h0 Nat.one_pos))
      have := (List.getElem?_eq_some_iff.1 ha).1
      omega
  obtain ⟨ps, hpe⟩ : ∃ ps, ps = ps0.take xss.length := ⟨_, rfl⟩
  have hpl : xss.length = ps.length := by rw [hpe, List.length_take]; omega
  have hpg : ∀ (i : Nat) b, ps[i]? = some b → ps0[i]? = some b := fun i b hb => by
    rw [hpe, List.getElem?_take] at hb
    split at hb
    · exact hb
    · cases hb
  have hrl : (hdrs xss ps).length = xss.length := by unfold hdrs; rw [List.length_zipWith]; omega
  have hsl : Sl encSl 1 w w.heap.size A (hdrs xss ps) := by
    refine ⟨by omega, fun hne => ?_⟩
    have hpos : 0 < xss.length := by rw [← hrl]; exact List.length_pos_iff.2 hne
    obtain ⟨a0, _, _, b, o, hA, hlt, _⟩ := h3.2 0 _ (List.getElem?_eq_getElem hpos)
    refine ⟨b, o, hA, hlt, fun i x hi j u hu => ?_⟩
    unfold hdrs at hi
    rw [List.getElem?_zipWith] at hi
    cases hx : xss[i]? with
    | none => rw [hx] at hi; simp at hi
    | some xs =>
      cases hy : ps[i]? with
      | none => rw [hx, hy] at hi; simp at hi
      | some a =>
        rw [hx, hy] at hi
        obtain rfl := Option.some.inj hi
        obtain ⟨a', ha', _, b', o', hA', _, hc⟩ := h3.2 i xs hx
        rw [hpg i a hy] at ha'
        obtain rfl := Option.some.inj ha'
        rw [hA] at hA'
        cases hA'
        cases j with
        | zero =>
          obtain rfl := Option.some.inj hu
          rw [Nat.mul_one, Nat.add_zero]; exact hc
        | succ j => simp [encSl] at hu
  have hcl := cloneRows_any A cap (hdrs xss ps) w hsl (by omega)
  rw [hrl] at hcl
  refine hcl.mono fun e w' ⟨⟨A', c', he, hown⟩, hb'⟩ => ⟨.slice A' xss.length c', by rw [he, hrl], hb.trans (hb'.mono hB), Nat.le_trans hB hb'.size, ?_⟩
  rw [hrl] at hown
  have s3 := sat_new_row s2 hb' hB hown
  have s4 : Sat B w' (lookS _ :: [rowS A' xss.length c' 1 ((hdrs xss ps).flatMap encSl), F]) := s3.perm (List.Perm.swap ..)
  have s5 := s4.imp (look_rows xss ps hpl fun u hu i xs a hx hy => by
    obtain ⟨a', ha', hq, _⟩ := hu.2 i xs hx
    rw [hpg i a hy] at ha'
    obtain rfl := Option.some.inj ha'
    exact hq)
  have s6 := rows_fin s5
  have s7 := sat_wrapN (A := pcS SR1.kt (.row 18 xss) (.slice A' xss.length c')) (fun k hk => pcS_iff.2 (show pcW SR1.kt (obS SR1.kt) (rwS SR1.kt) (.row 18 xss) _ k from ⟨A', c', rfl, rwS_iff.2 ⟨(hdrs xss ps).map encSl, by
    rw [show ((hdrs xss ps).map encSl).flatten = (hdrs xss ps).flatMap encSl from by rw [List.flatMap_def]]
    exact hk⟩⟩)) s6
  exact (s7.perm (List.Perm.swap ..)).drop
theorem cloneRows_ok : CO Tryz.prog cloneRows_k := fun x out hx B W vs F w hw => by
  obtain ⟨hb, hB, hs⟩ := hw
  replace hx : cloneRows x.1 = some out := hx
  unfold cloneRows at hx
  split at hx
  · rename_i hl
    cases hx
    show CallsM Tryz.prog cloneRows_k.f _ w _
    rw [callsM_fn rfl]
    rcases vs with _ | ⟨v, _ | ⟨v2, vs⟩⟩
    · exact sat_false hs
    · exact (cloneRows_aux x.1 hl B W v F w ⟨hb, hB, hs⟩).mono fun e w' ⟨u, he, h⟩ => ⟨[u], he, h⟩
    · replace hs : Sat B w (pcS SR1.kt (.rr 3 x.1) v :: ([fun _ => False] ++ [F])) := hs
      exact sat_false hs.drop
  · cases hx
end
section
open Go.RowKit
end
section
open Go.RowKit
/-- The box of a configuration. -/
@[reducible] def cfgBox (c : Cfg) (l : CfgAt) : Obj := .cells #[.int .i64 c.workers, .int .i64 c.levels, .int .i64 c.classes, .int .i64 c.tasks, .int .i64 c.deque, .int .i64 c.heap, .int .i64 c.batch, .int .i64 c.age, .int .i64 c.patience, .slice l.pa c.progs.length l.pc, .slice l.sa c.subs.length l.sc] 33
end
section
open Go.RowKit
/-- Small: the numbers, then the programs' lengths. -/
def SmallNums (c : Cfg) : Prop := c.workers ≤ 16 ∧ c.levels ≤ 8 ∧ c.tasks ≤ 16 ∧ c.deque ≤ 8 ∧ c.heap ≤ 8 ∧ c.progs.length ≤ 8 ∧ c.subs.length ≤ 12
instance (c : Cfg) : Decidable (SmallNums c) := by unfold SmallNums; exact inferInstance
end
section
open Go.RowKit
/-- The seven numbers are in range. -/
def InRange (w l c p t s g : Int) : Prop := (0 ≤ w ∧ w ≤ 131072) ∧ (0 ≤ l ∧ l ≤ 131072) ∧ (0 ≤ c ∧ c ≤ 131072) ∧ (0 ≤ p ∧ p ≤ 131072) ∧ (0 ≤ t ∧ t ≤ 131072) ∧ (0 ≤ s ∧ s ≤ 131072) ∧ (0 ≤ g ∧ g ≤ 1048576)
instance (w l c p t s g : Int) : Decidable (InRange w l c p t s g) := by unfold InRange; infer_instance
def runV (w l c t g : Int) : Int := (g + 2 * t + 1) * (64 + 2 * c + 16 * t) + 4 * t * l * (w + 1)
def progV (l t s g : Int) : Int := 4 * t + 4 * g + 8 * t * l + 8 * s + 4
def seekV (w l c p : Int) : Int := 8 * (64 + 11 * l + 16 * w + p) + 64 + 2 * c
def boundV (w l c p t s g : Int) : Int := if InRange w l c p t s g then runV w l c t g + t + g + (progV l t s g + 2) * seekV w l c p else 0
/-- The products keep within their bounds. -/
def ProdOk (w l c p t s g : Int) : Prop :=
  (0 ≤ 4 * t * l ∧ 4 * t * l ≤ 68719476736) ∧ (0 ≤ 8 * t * l ∧ 8 * t * l ≤ 137438953472) ∧ (0 ≤ (g + 2 * t + 1) * (64 + 2 * c + 16 * t) ∧ (g + 2 * t + 1) * (64 + 2 * c + 16 * t) ≤ 9007199254740992) ∧ (0 ≤ 4 * t * l * (w + 1) ∧ 4 * t * l * (w + 1) ≤ 18014398509481984) ∧
  (0 ≤ (progV l t s g + 2) * seekV w l c p ∧ (progV l t s g + 2) * seekV w l c p ≤ 4611686018427387904)
theorem mul_le_mul_of {a b A B : Int} (ha : 0 ≤ a) (hA : a ≤ A) (hb : 0 ≤ b) (hB : b ≤ B) : 0 ≤ a * b ∧ a * b ≤ A * B :=
  ⟨Int.mul_nonneg ha hb, Int.le_trans (Int.mul_le_mul_of_nonneg_right hA hb) (Int.mul_le_mul_of_nonneg_left hB (Int.le_trans ha hA))⟩
theorem prodOk {w l c p t s g : Int} (h : InRange w l c p t s g) : ProdOk w l c p t s g := by
  obtain ⟨hw, hl, hc, hp, ht, hs, hg⟩ := h
  have h1 := mul_le_mul_of (a := 4 * t) (b := l) (A := 524288) (B := 131072) (by omega) (by omega) hl.1 hl.2
  have h2 := mul_le_mul_of (a := 8 * t) (b := l) (A := 1048576) (B := 131072) (by omega) (by omega) hl.1 hl.2
  have h3 := mul_le_mul_of (a := g + 2 * t + 1) (b := 64 + 2 * c + 16 * t) (A := 1310721) (B := 2359360) (by omega) (by omega) (by omega) (by omega)
  have h4 := mul_le_mul_of (a := 4 * t * l) (b := w + 1) (A := 68719476736) (B := 131073) h1.1 (by omega) (by omega) (by omega)
  have h5 := mul_le_mul_of (a := progV l t s g + 2) (b := seekV w l c p) (A := 137444720646) (B := 29622848) (by unfold progV; omega) (by unfold progV; omega) (by unfold seekV; omega) (by unfold seekV; omega)
  unfold ProdOk
  omega
set_option maxHeartbeats 1000000 in
theorem parts_any (w l c p t s g : Int) (wl : World) (h : InRange w l c p t s g) :
    Calls Tryz.prog 17 #[.int .i64 w, .int .i64 l, .int .i64 c, .int .i64 p, .int .i64 t, .int .i64 s, .int .i64 g] wl fun e w' => e = .returned (.tuple #[.int .i64 (runV w l c t g), .int .i64 (progV l t s g), .int .i64 (seekV w l c p)]) ∧ wl = w' := by
  have hp := prodOk h
  unfold InRange at h
  unfold ProdOk at hp
  unfold runV
  unfold progV seekV at hp ⊢
  obtain ⟨⟨_, _⟩, ⟨_, _⟩, ⟨_, _⟩, ⟨_, _⟩, ⟨_, _⟩, ⟨_, _⟩, ⟨_, _⟩⟩ := h
  obtain ⟨⟨_, _⟩, ⟨_, _⟩, ⟨_, _⟩, ⟨_, _⟩, ⟨_, _⟩⟩ := hp
  go_enter Tryz.func17, Tryz.ntmps17
  go_wp2
  go_ret3
  exact ⟨rfl, rfl⟩
end
section
open Go.RowKit
def ati (xs : List Int) (i : Nat) : Int := xs.getD i 0
def OkTo (xs : List Int) (k : Nat) : Prop := ∀ i, i < k → 0 ≤ ati xs i ∧ ati xs i ≤ 131072
theorem OkTo.next {xs : List Int} {k : Nat} (h : OkTo xs k) (h1 : 0 ≤ ati xs k) (h2 : ati xs k ≤ 131072) : OkTo xs (k + 1) := fun i hi => by
  rcases Nat.lt_or_ge i k with h3 | h3
  · exact h i h3
  · have e : i = k := by omega
    subst e; exact ⟨h1, h2⟩
theorem inRange_of {w l c p t s g : Int} (h : OkTo [w, l, c, p, t, s] 6) (hg : 0 ≤ g ∧ g ≤ 1048576) : InRange w l c p t s g :=
  ⟨h 0 (by omega), h 1 (by omega), h 2 (by omega), h 3 (by omega), h 4 (by omega), h 5 (by omega), hg⟩
theorem InRange.at_ {w l c p t s g : Int} (h : InRange w l c p t s g) (i : Nat) : 0 ≤ ati [w, l, c, p, t, s] i ∧ ati [w, l, c, p, t, s] i ≤ 131072 := by
  obtain ⟨h0, h1, h2, h3, h4, h5, _⟩ := h
  match i with
  | 0 => exact h0
  | 1 => exact h1
  | 2 => exact h2
  | 3 => exact h3
  | 4 => exact h4
  | 5 => exact h5
  | k + 6 => simp [ati, List.getD]
theorem boundV_zero {w l c p t s g : Int} {k : Nat} (h : ¬ (0 ≤ ati [w, l, c, p, t, s] k ∧ ati [w, l, c, p, t, s] k ≤ 131072)) : boundV w l c p t s g = 0 := by
  unfold boundV
  exact if_neg fun hr => h (hr.at_ k)
theorem boundV_zero_g {w l c p t s g : Int} (h : ¬ (0 ≤ g ∧ g ≤ 1048576)) : boundV w l c p t s g = 0 := by
  unfold boundV
  exact if_neg fun hr => h hr.2.2.2.2.2.2
theorem six_cell {w : World} {g : Nat} {ty : TypeId} {a b c d e f : Int} (h : Blk w g ty #[.int .i64 a, .int .i64 b, .int .i64 c, .int .i64 d, .int .i64 e, .int .i64 f]) {k : Nat} (hk : k < 6) : w.cell? ⟨g, k, none⟩ = some (.int .i64 (ati [a, b, c, d, e, f] k)) := by
  rw [h.cell]
  match k, hk with
  | 0, _ => rfl
  | 1, _ => rfl
  | 2, _ => rfl
  | 3, _ => rfl
  | 4, _ => rfl
  | 5, _ => rfl
set_option maxHeartbeats 2000000 in
theorem bound_any (w l c p t s g : Int) (wl : World) (hi : (-9223372036854775808 ≤ g ∧ g ≤ 9223372036854775807)) :
    Calls Tryz.prog 8 #[.int .i64 w, .int .i64 l, .int .i64 c, .int .i64 p, .int .i64 t, .int .i64 s, .int .i64 g] wl fun e w' => e = .returned (.int .i64 (boundV w l c p t s g)) ∧ Below wl.heap.size wl w' := by
  obtain ⟨R, hR⟩ : ∃ R, R = boundV w l c p t s g := ⟨_, rfl⟩
  rw [← hR]
  have HR := Lib.hid hR
  clear hR
  by_cases hg : 0 ≤ g ∧ g ≤ 1048576
  · go_enter Tryz.func8, Tryz.ntmps8
    go_wp2_with fail
    have hB1 : Below wl.heap.size wl (wl.alloc (.cells #[.int .i64 w, .int .i64 l, .int .i64 c, .int .i64 p, .int .i64 t, .int .i64 s] 3)) := (Below.refl _ _).alloc (Nat.le_refl _) _
    have hK1 : Blk (wl.alloc (.cells #[.int .i64 w, .int .i64 l, .int .i64 c, .int .i64 p, .int .i64 t, .int .i64 s] 3)) wl.heap.size 3 #[.int .i64 w, .int .i64 l, .int .i64 c, .int .i64 p, .int .i64 t, .int .i64 s] := Blk.new _ _ _
    generalize hw1 : (wl.alloc (.cells #[.int .i64 w, .int .i64 l, .int .i64 c, .int .i64 p, .int .i64 t, .int .i64 s] 3)) = w1 at *
    go_loopw [34] (fun i wr => ∃ k : Nat, k ≤ 6 ∧ i = .int .i64 k ∧ OkTo [w, l, c, p, t, s] k ∧ wr = w1) (fun i _ => 6 - (intOf i).toNat)
    case atStart => exact ⟨0, by omega, rfl, fun i hi => absurd hi (Nat.not_lt_zero _), rfl⟩
    case round =>
      obtain ⟨k, hk, rfl, hok, rfl⟩ := hrel
      by_cases hlt : k < 6
      · have c0 := six_cell hK1 hlt
        generalize hv : ati [w, l, c, p, t, s] k = v at *
        by_cases h0 : 0 ≤ v
        · by_cases h1 : v ≤ 131072
          · go_wp2
            go_roundw
            case rel => exact ⟨k + 1, by omega, by go_num, hok.next (by omega) (by omega), trivial⟩
            case measure => simp [intOf]; omega
          · go_wp2
            go_ret
            exact ⟨ret_int (by rw [HR.out, boundV_zero (k := k) (by rw [hv]; omega)]), hB1⟩
        · go_wp2
          go_ret
          exact ⟨ret_int (by rw [HR.out, boundV_zero (k := k) (by rw [hv]; omega)]), hB1⟩
      · obtain rfl : k = 6 := by omega
        have hr := inRange_of hok hg
        have hp := prodOk hr
        have hR2 : R = runV w l c t g + t + g + (progV l t s g + 2) * seekV w l c p := by rw [HR.out]; exact if_pos hr
        go_wp2_with fail
        refine (parts_any w l c p t s g _ hr).mono ?_; rintro e w2 ⟨rfl, rfl⟩
        unfold ProdOk at hp
        obtain ⟨⟨_, _⟩, ⟨_, _⟩, ⟨_, _⟩, ⟨_, _⟩, ⟨_, _⟩⟩ := hp
        have hrv : 0 ≤ runV w l c t g ∧ runV w l c t g ≤ 27021597764222976 := by unfold runV; omega
        unfold InRange at hr
        have hpv : 0 ≤ progV l t s g ∧ progV l t s g ≤ 137444720644 := by unfold progV; omega
        generalize runV w l c t g = rv at *
        generalize progV l t s g = pv at *
        generalize seekV w l c p = sv at *
        go_wp2
        go_ret
        exact ⟨ret_int hR2.symm, hB1⟩
  · go_enter Tryz.func8, Tryz.ntmps8
    have hb := Lib.hid (boundV_zero_g (w := w) (l := l) (c := c) (p := p) (t := t) (s := s) hg)
    by_cases h0 : 0 ≤ g
    · have h1 : 1048576 < g := by omega
      clear hg
      go_wp2
      go_ret
      exact ⟨ret_int (by rw [HR.out, hb.out]), Below.refl _ _⟩
    · clear hg
      go_wp2
      go_ret
      exact ⟨ret_int (by rw [HR.out, hb.out]), Below.refl _ _⟩
set_option maxHeartbeats 2000000 in
theorem refBound_any (w l c p t s g : Int) (wl : World) (hi : (-9223372036854775808 ≤ g ∧ g ≤ 9223372036854775807)) :
    Calls Tryz.prog 9 #[.int .i64 w, .int .i64 l, .int .i64 c, .int .i64 p, .int .i64 t, .int .i64 s, .int .i64 g] wl fun e w' => e = .returned (.int .i64 (boundV w l c p t s g)) ∧ Below wl.heap.size wl w' := by
  obtain ⟨R, hR⟩ : ∃ R, R = boundV w l c p t s g := ⟨_, rfl⟩
  rw [← hR]
  have HR := Lib.hid hR
  clear hR
  go_enter Tryz.func9, Tryz.ntmps9
  go_wp2_with fail
  have hB1 : Below wl.heap.size wl (wl.alloc (.cells #[.int .i64 w, .int .i64 l, .int .i64 c, .int .i64 p, .int .i64 t, .int .i64 s] 45)) := (Below.refl _ _).alloc (Nat.le_refl _) _
  have hK1 : Blk (wl.alloc (.cells #[.int .i64 w, .int .i64 l, .int .i64 c, .int .i64 p, .int .i64 t, .int .i64 s] 45)) wl.heap.size 45 #[.int .i64 w, .int .i64 l, .int .i64 c, .int .i64 p, .int .i64 t, .int .i64 s] := Blk.new _ _ _
  generalize hw1 : (wl.alloc (.cells #[.int .i64 w, .int .i64 l, .int .i64 c, .int .i64 p, .int .i64 t, .int .i64 s] 45)) = w1 at *
  go_loopw [16] (fun i wr => ∃ k : Nat, k ≤ 6 ∧ i = .int .i64 k ∧ OkTo [w, l, c, p, t, s] k ∧ wr = w1) (fun i _ => 6 - (intOf i).toNat)
  case atStart => exact ⟨0, by omega, rfl, fun i hi => absurd hi (Nat.not_lt_zero _), rfl⟩
  case round =>
    obtain ⟨k, hk, rfl, hok, rfl⟩ := hrel
    by_cases hlt : k < 6
    · have c0 := six_cell hK1 hlt
      generalize hv : ati [w, l, c, p, t, s] k = v at *
      by_cases h0 : 0 ≤ v
      · by_cases h1 : v ≤ 131072
        · go_wp2
          go_roundw
          case rel => exact ⟨k + 1, by omega, by go_num, hok.next (by omega) (by omega), trivial⟩
          case measure => simp [intOf]; omega
        · go_wp2
          go_ret
          exact ⟨ret_int (by rw [HR.out, boundV_zero (k := k) (by rw [hv]; omega)]), hB1⟩
      · go_wp2
        go_ret
        exact ⟨ret_int (by rw [HR.out, boundV_zero (k := k) (by rw [hv]; omega)]), hB1⟩
    · obtain rfl : k = 6 := by omega
      by_cases hg : 0 ≤ g ∧ g ≤ 1048576
      · have hr := inRange_of hok hg
        have hp := prodOk hr
        have hR2 : R = runV w l c t g + t + g + (progV l t s g + 2) * seekV w l c p := by rw [HR.out]; exact if_pos hr
        clear hok
        unfold ProdOk at hp
        unfold runV at hR2
        unfold progV seekV at hp hR2
        obtain ⟨⟨_, _⟩, ⟨_, _⟩, ⟨_, _⟩, ⟨_, _⟩, ⟨_, _⟩⟩ := hp
        unfold InRange at hr
        obtain ⟨⟨_, _⟩, ⟨_, _⟩, ⟨_, _⟩, ⟨_, _⟩, ⟨_, _⟩, ⟨_, _⟩, ⟨_, _⟩⟩ := hr
        go_wp2
        go_ret
        exact ⟨ret_int hR2.symm, hB1⟩
      · have hb := Lib.hid (boundV_zero_g (w := w) (l := l) (c := c) (p := p) (t := t) (s := s) hg)
        by_cases h0 : 0 ≤ g
        · have h1 : 1048576 < g := by omega
          clear hg
          go_wp2
          go_ret
          exact ⟨ret_int (by rw [HR.out, hb.out]), hB1⟩
        · clear hg
          go_wp2
          go_ret
          exact ⟨ret_int (by rw [HR.out, hb.out]), hB1⟩
end
section
open Go Go.RowKit
theorem rounds_nil (A : Option Addr) (cap : Nat) (n : Int) (w : World) (hn : 1 ≤ n) :
    Calls Tryz.prog 26 #[.slice A 0 cap, .int .i64 n] w fun e w' => e = .returned (.int .i64 0) ∧ Below w.heap.size w w' := by
  have hmm := @run_makeMap Tryz.prog
  go_enter Tryz.func26, Tryz.ntmps26
  go_wp2
  go_step3
  go_wp2
  go_step3
  go_wp2
  go_rounds 1
  all_goals (try (apply_assumption; go_wp2))
  rw [Exit.noGoto_ret]
  go_ret
  exact ⟨rfl, (Below.refl _ _).alloc (Nat.le_refl _) _⟩
end
section
open Go Go.RowKit
theorem sat_bI {S : Shp} {B : Nat} {w : World} {L : List SProp} {x : Bool} (s : Sat B w L) : Sat B w (pcS S.kt (.b x) (.bool x) :: L) := sat_pureI s fun _ => ⟨0, rfl⟩
/-- A number is in range. -/
abbrev Rg64 (g : Int) : Prop := -9223372036854775808 ≤ g ∧ g ≤ 9223372036854775807
def bndS (a b c d e f g : Int) : Option ((Int × Unit) × Unit) := if Rg64 g then some ((boundV a b c d e f g, ()), ()) else none
theorem co_seven {f : FuncId} (hf : Nat.blt f mBase = true) (h : ∀ (w l c p t s g : Int) (wl : World), Rg64 g → Calls Tryz.prog f #[.int .i64 w, .int .i64 l, .int .i64 c, .int .i64 p, .int .i64 t, .int .i64 s, .int .i64 g] wl fun e w' => e = .returned (.int .i64 (boundV w l c p t s g)) ∧ Below wl.heap.size wl w') :
    CO Tryz.prog (⟨f, [.sh sI_, .sh sI_, .sh sI_, .sh sI_, .sh sI_, .sh sI_, .sh sI_], [.sh sI_], fun x => bndS x.1 x.2.1 x.2.2.1 x.2.2.2.1 x.2.2.2.2.1 x.2.2.2.2.2.1 x.2.2.2.2.2.2.1⟩ : Con SR1) := fun x out hx B W vs F w hc => by
  obtain ⟨hb, hB, hs⟩ := hc
  obtain ⟨(a : Int), (b : Int), (c : Int), (d : Int), (e : Int), (f' : Int), (g : Int), _⟩ := x
  replace hx : bndS a b c d e f' g = some out := hx
  unfold bndS at hx
  split at hx
  · rename_i hg
    obtain rfl := Option.some.inj hx
    show CallsM Tryz.prog f _ w _
    rw [callsM_fn hf]
    replace hs : Sat B w (PreS SR1 [.sh sI_, .sh sI_, .sh sI_, .sh sI_, .sh sI_, .sh sI_, .sh sI_] (a, b, c, d, e, f', g, ()) vs ++ [F]) := hs
    rcases vs with _ | ⟨v1, vs⟩
    · exact sat_false hs
    obtain ⟨rfl, s1⟩ := sat_i (S := SR1) (k := .i64) (x := a) (L := PreS SR1 [.sh sI_, .sh sI_, .sh sI_, .sh sI_, .sh sI_, .sh sI_] (b, c, d, e, f', g, ()) vs ++ [F]) hs
    rcases vs with _ | ⟨v2, vs⟩
    · exact sat_false s1
    obtain ⟨rfl, s2⟩ := sat_i (S := SR1) (k := .i64) (x := b) (L := PreS SR1 [.sh sI_, .sh sI_, .sh sI_, .sh sI_, .sh sI_] (c, d, e, f', g, ()) vs ++ [F]) s1
    rcases vs with _ | ⟨v3, vs⟩
    · exact sat_false s2
    obtain ⟨rfl, s3⟩ := sat_i (S := SR1) (k := .i64) (x := c) (L := PreS SR1 [.sh sI_, .sh sI_, .sh sI_, .sh sI_] (d, e, f', g, ()) vs ++ [F]) s2
    rcases vs with _ | ⟨v4, vs⟩
    · exact sat_false s3
    obtain ⟨rfl, s4⟩ := sat_i (S := SR1) (k := .i64) (x := d) (L := PreS SR1 [.sh sI_, .sh sI_, .sh sI_] (e, f', g, ()) vs ++ [F]) s3
    rcases vs with _ | ⟨v5, vs⟩
    · exact sat_false s4
    obtain ⟨rfl, s5⟩ := sat_i (S := SR1) (k := .i64) (x := e) (L := PreS SR1 [.sh sI_, .sh sI_] (f', g, ()) vs ++ [F]) s4
    rcases vs with _ | ⟨v6, vs⟩
    · exact sat_false s5
    obtain ⟨rfl, s6⟩ := sat_i (S := SR1) (k := .i64) (x := f') (L := PreS SR1 [.sh sI_] (g, ()) vs ++ [F]) s5
    rcases vs with _ | ⟨v7, vs⟩
    · exact sat_false s6
    obtain ⟨rfl, s7⟩ := sat_i (S := SR1) (k := .i64) (x := g) (L := PreS SR1 [] () vs ++ [F]) s6
    rcases vs with _ | ⟨v8, vs⟩
    · exact (h a b c d e f' g w hg).mono fun e' w' ⟨he, hb'⟩ => ⟨[.int .i64 (boundV a b c d e f' g)], he, hb.trans (hb'.mono hB), Nat.le_trans hB hb'.size, sat_iI (S := SR1) (s7.below hb')⟩
    · exact sat_false s7
  · cases hx
def bndBound (a b c d e f g : Int) : Option ((Int × Unit) × Unit) := if Rg64 g then some ((boundV a b c d e f g, ()), ()) else none
noncomputable abbrev bndBound_k : Con SR1 := ⟨8, [.sh sI_, .sh sI_, .sh sI_, .sh sI_, .sh sI_, .sh sI_, .sh sI_], [.sh sI_], fun x => bndBound x.1 x.2.1 x.2.2.1 x.2.2.2.1 x.2.2.2.2.1 x.2.2.2.2.2.1 x.2.2.2.2.2.2.1⟩
theorem bndBound_ok : CO Tryz.prog bndBound_k := co_seven (by kernel_rfl) bound_any
def refBound (a b c d e f g : Int) : Option ((Int × Unit) × Unit) := if Rg64 g then some ((boundV a b c d e f g, ()), ()) else none
noncomputable abbrev refBound_k : Con SR1 := ⟨9, [.sh sI_, .sh sI_, .sh sI_, .sh sI_, .sh sI_, .sh sI_, .sh sI_], [.sh sI_], fun x => refBound x.1 x.2.1 x.2.2.1 x.2.2.2.1 x.2.2.2.2.1 x.2.2.2.2.2.1 x.2.2.2.2.2.2.1⟩
theorem refBound_ok : CO Tryz.prog refBound_k := co_seven (by kernel_rfl) refBound_any
def scRounds (l : List EntV) (n : Int) : Option ((Int × Unit) × Unit) := if l = [] then (if 1 ≤ n then some ((0, ()), ()) else none) else none
noncomputable abbrev scRounds_k : Con SR1 := ⟨26, [.sh (.ro 5), .sh sI_], [.sh sI_], fun x => scRounds x.1 x.2.1⟩
theorem scRounds_ok : CO Tryz.prog scRounds_k := fun x out hx B W vs F w hc => by
  obtain ⟨hb, hB, hs⟩ := hc
  obtain ⟨(l : List EntV), (n : Int), _⟩ := x
  replace hx : scRounds l n = some out := hx
  unfold scRounds at hx
  split at hx
  · rename_i hl
    subst hl
    split at hx
    · rename_i hn
      obtain rfl := Option.some.inj hx
      show CallsM Tryz.prog _ _ w _
      rw [callsM_fn (by kernel_rfl)]
      replace hs : Sat B w (PreS SR1 [.sh (.ro 5), .sh sI_] (([] : List EntV), n, ()) vs ++ [F]) := hs
      rcases vs with _ | ⟨v1, vs⟩
      · exact sat_false hs
      obtain ⟨A, cap, rfl, _⟩ := sat_ro (S := SR1) (c := 5) (xs := []) (L := PreS SR1 [.sh sI_] (n, ()) vs ++ [F]) hs
      have s1 : Sat B w (PreS SR1 [.sh sI_] (n, ()) vs ++ [F]) := hs.drop
      rcases vs with _ | ⟨v2, vs⟩
      · exact sat_false s1
      obtain ⟨rfl, s2⟩ := sat_i (S := SR1) (k := .i64) (x := n) (L := PreS SR1 [] () vs ++ [F]) s1
      rcases vs with _ | ⟨v3, vs⟩
      · exact (rounds_nil A cap n w hn).mono fun e' w' ⟨he, hb'⟩ => ⟨[.int .i64 0], he, hb.trans (hb'.mono hB), Nat.le_trans hB hb'.size, sat_iI (S := SR1) (s2.below hb')⟩
      · exact sat_false s2
    · cases hx
  · cases hx
end
section
open Go Go.RowKit
set_option maxRecDepth 100000
noncomputable def pAt (i : Int) (n : Int) (a : Int) (w : Int) : Option ((Int × Unit) × (Unit)) :=
 if i < 0 then
  some (((-1), ()), (()))
 else
 if n ≤ i then
  some (((-1), ()), (()))
 else
 some ((wi (a + (wi (i * w))), ()), (()))
noncomputable abbrev pAt_k : Con SR1 := ⟨69, [.sh sI_, .sh sI_, .sh sI_, .sh sI_], [.sh sI_], fun x => pAt x.1 x.2.1 x.2.2.1 x.2.2.2.1⟩
theorem pAt_ok : CO Tryz.prog pAt_k := co_fn mixed Tryz.func69 [] trivial [] trivial (fun _ => []) [] fun x => by kernel_rfl
noncomputable def pTask (l : LayV) (t : Int) (f : Int) : Option ((Int × Unit) × (Unit)) :=
 (pAt t l.tasks (wi (l.table + f)) 5).bind fun r1 =>
 some ((r1.1.1, ()), (()))
noncomputable abbrev pTask_k : Con SR1 := ⟨63, [.val 24, .sh sI_, .sh sI_], [.sh sI_], fun x => pTask x.1 x.2.1 x.2.2.1⟩
theorem pTask_ok : CO Tryz.prog pTask_k := co_fn mixed Tryz.func63 [pAt_k] ⟨pAt_ok, trivial⟩ [] trivial (fun _ => []) [] fun x => by kernel_rfl
noncomputable def pNext (l : LayV) : Option ((Int × Unit) × (Unit)) :=
 some ((0, ()), (()))
noncomputable abbrev pNext_k : Con SR1 := ⟨46, [.val 24], [.sh sI_], fun x => pNext x.1⟩
theorem pNext_ok : CO Tryz.prog pNext_k := co_fn mixed Tryz.func46 [] trivial [] trivial (fun _ => []) [] fun x => by kernel_rfl
noncomputable def pState (l : LayV) (t : Int) : Option ((Int × Unit) × (Unit)) :=
 (pTask l t 0).bind fun r1 =>
 some ((r1.1.1, ()), (()))
noncomputable abbrev pState_k : Con SR1 := ⟨47, [.val 24, .sh sI_], [.sh sI_], fun x => pState x.1 x.2.1⟩
theorem pState_ok : CO Tryz.prog pState_k := co_fn mixed Tryz.func47 [pTask_k] ⟨pTask_ok, trivial⟩ [] trivial (fun _ => []) [] fun x => by kernel_rfl
noncomputable def pCells (l : LayV) : Option ((Int × Unit) × (Unit)) :=
 some ((wi (l.table + (wi (5 * l.tasks))), ()), (()))
noncomputable abbrev pCells_k : Con SR1 := ⟨58, [.val 24], [.sh sI_], fun x => pCells x.1⟩
theorem pCells_ok : CO Tryz.prog pCells_k := co_fn mixed Tryz.func58 [] trivial [] trivial (fun _ => []) [] fun x => by kernel_rfl
noncomputable def clientClientOver (y0 : (ClientV MV)) : Option ((Bool × Unit) × ((ClientV MV) × Unit)) :=
 some ((decide (((y0.subs.length : Nat) : Int) ≤ y0.i), ()), (y0, ()))
noncomputable abbrev clientClientOver_k : Con SR1 := ⟨61, [.ref 30], [.sh .b], fun x => clientClientOver x.1⟩
theorem clientClientOver_ok : CO Tryz.prog clientClientOver_k := co_fn mixed Tryz.func61 [] trivial [] trivial (fun _ => []) [] fun x => by kernel_rfl
noncomputable def pAsleep (m : MV) : Option ((Bool × Unit) × (MV × Unit)) := none
noncomputable abbrev pAsleep_k : Con SR1 := ⟨60, [.mch], [.sh .b], fun x => none⟩
theorem pAsleep_ok : CO Tryz.prog pAsleep_k := fun x out h => by cases h
noncomputable def configClone (y0 : Cfg) : Option ((Cfg × Unit) × (Unit)) :=
 (cloneRows y0.progs).bind fun r1 =>
 (lpF (σ := Int × (Int × Int × Int × Int × Int × Int × Int × Int × Int × List (List Ins) × List Sub × Unit) × Unit) (β := Int × (Int × Int × Int × Int × Int × Int × Int × Int × Int × List (List Ins) × List Sub × Unit) × Unit) (fun self4 x2 =>
  if x2.1 < ((r1.1.1.length : Nat) : Int) then
   if 0 ≤ x2.1 ∧ x2.1 < ((x2.2.1.2.2.2.2.2.2.2.2.2.1.length : Nat) : Int) then
    (cloneIns (atK18 x2.2.1.2.2.2.2.2.2.2.2.2.1 x2.1)).bind fun r5 =>
    if 0 ≤ x2.1 ∧ x2.1 < ((x2.2.1.2.2.2.2.2.2.2.2.2.1.length : Nat) : Int) then
     self4 (wi (x2.1 + 1), (x2.2.1.1, x2.2.1.2.1, x2.2.1.2.2.1, x2.2.1.2.2.2.1, x2.2.1.2.2.2.2.1, x2.2.1.2.2.2.2.2.1, x2.2.1.2.2.2.2.2.2.1, x2.2.1.2.2.2.2.2.2.2.1, x2.2.1.2.2.2.2.2.2.2.2.1, x2.2.1.2.2.2.2.2.2.2.2.2.1.set x2.1.toNat r5.1.1, x2.2.1.2.2.2.2.2.2.2.2.2.2.1, ()), ())
    else none
   else none
  else
  some (x2.1, (x2.2.1.1, x2.2.1.2.1, x2.2.1.2.2.1, x2.2.1.2.2.2.1, x2.2.1.2.2.2.2.1, x2.2.1.2.2.2.2.2.1, x2.2.1.2.2.2.2.2.2.1, x2.2.1.2.2.2.2.2.2.2.1, x2.2.1.2.2.2.2.2.2.2.2.1, x2.2.1.2.2.2.2.2.2.2.2.2.1, x2.2.1.2.2.2.2.2.2.2.2.2.2.1, ()), ())
 ) 18446744073709551616 (0, (y0.workers, y0.levels, y0.classes, y0.tasks, y0.deque, y0.heap, y0.batch, y0.age, y0.patience, r1.1.1, y0.subs, ()), ())).bind fun z3 =>
 (cloneSubs z3.2.1.2.2.2.2.2.2.2.2.2.2.1).bind fun r6 =>
 some (((⟨z3.2.1.1, z3.2.1.2.1, z3.2.1.2.2.1, z3.2.1.2.2.2.1, z3.2.1.2.2.2.2.1, z3.2.1.2.2.2.2.2.1, z3.2.1.2.2.2.2.2.2.1, z3.2.1.2.2.2.2.2.2.2.1, z3.2.1.2.2.2.2.2.2.2.2.1, z3.2.1.2.2.2.2.2.2.2.2.2.1, r6.1.1⟩ : Cfg), ()), (()))
noncomputable abbrev configClone_k : Con SR1 := ⟨59, [.val 13], [.val 13], fun x => configClone x.1⟩
theorem configClone_ok : CO Tryz.prog configClone_k := co_fn mixed Tryz.func59 [cloneRows_k, cloneIns_k, cloneSubs_k] ⟨cloneRows_ok, cloneIns_ok, cloneSubs_ok, trivial⟩ [] trivial (fun _ => []) [(3, .loop [.rg 11 sI_, .cs 11 [sI_, sI_, sI_, sI_, sI_, sI_, sI_, sI_, sI_, (.row 18), (.ro 4)]] 18446744073709551616 0)] fun x => by kernel_rfl
noncomputable def configIn (y0 : Int) (y1 : Int) (y2 : Int) : Option ((Bool × Unit) × (Unit)) :=
 if y1 ≤ y0 then
  some ((decide (y0 ≤ y2), ()), (()))
 else
 some ((false, ()), (()))
noncomputable abbrev configIn_k : Con SR1 := ⟨54, [.sh sI_, .sh sI_, .sh sI_], [.sh .b], fun x => configIn x.1 x.2.1 x.2.2.1⟩
theorem configIn_ok : CO Tryz.prog configIn_k := co_fn mixed Tryz.func54 [] trivial [] trivial (fun _ => []) [] fun x => by kernel_rfl
noncomputable def configNumbers (y0 : Cfg) : Option ((Bool × Unit) × (Unit)) :=
 (configIn y0.workers 1 16).bind fun r1 =>
 if r1.1.1 = true then
  (configIn y0.levels 1 64).bind fun r2 =>
  if r2.1.1 = true then
   (configIn y0.classes 1 (if y0.levels < 8 then y0.levels else 8)).bind fun r3 =>
   if r3.1.1 = true then
    (configIn y0.tasks 1 256).bind fun r4 =>
    if r4.1.1 = true then
     (configIn y0.deque 1 64).bind fun r5 =>
     if r5.1.1 = true then
      (configIn y0.heap 1 64).bind fun r6 =>
      if r6.1.1 = true then
       (configIn y0.batch 1 y0.deque).bind fun r7 =>
       if r7.1.1 = true then
        (configIn y0.age 0 65536).bind fun r8 =>
        if r8.1.1 = true then
         (configIn y0.patience 1 65536).bind fun r9 =>
         some ((r9.1.1, ()), (()))
        else
        some ((false, ()), (()))
       else
       some ((false, ()), (()))
      else
      some ((false, ()), (()))
     else
     some ((false, ()), (()))
    else
    some ((false, ()), (()))
   else
   some ((false, ()), (()))
  else
  some ((false, ()), (()))
 else
 some ((false, ()), (()))
noncomputable abbrev configNumbers_k : Con SR1 := ⟨29, [.val 13], [.sh .b], fun x => configNumbers x.1⟩
theorem configNumbers_ok : CO Tryz.prog configNumbers_k := co_fn mixed Tryz.func29 [configIn_k] ⟨configIn_ok, trivial⟩ [] trivial (fun _ => []) [] fun x => by kernel_rfl
noncomputable def configValid (y0 : Cfg) (y1 : Ins) : Option ((Bool × Unit) × (Unit)) :=
 if y1.op = 0 then
  (configIn y1.a 1 64).bind fun r1 =>
  if r1.1.1 = true then
   some ((decide (y1.b = 0), ()), (()))
  else
  some ((false, ()), (()))
 else
 if y1.op = 1 then
  (configIn y1.a 0 (wi (((y0.progs.length : Nat) : Int) - 1))).bind fun r2 =>
  if r2.1.1 = true then
   (configIn y1.b 0 (wi (y0.levels - 1))).bind fun r3 =>
   some ((r3.1.1, ()), (()))
  else
  some ((false, ()), (()))
 else
 if y1.op = 2 then
  (configIn y1.a 0 31).bind fun r4 =>
  if r4.1.1 = true then
   some ((decide (y1.b = 0), ()), (()))
  else
  some ((false, ()), (()))
 else
 some ((false, ()), (()))
noncomputable abbrev configValid_k : Con SR1 := ⟨55, [.val 13, .val 3], [.sh .b], fun x => configValid x.1 x.2.1⟩
theorem configValid_ok : CO Tryz.prog configValid_k := co_fn mixed Tryz.func55 [configIn_k] ⟨configIn_ok, trivial⟩ [] trivial (fun _ => []) [] fun x => by kernel_rfl
noncomputable def configPrograms (y0 : Cfg) : Option ((Int × Unit) × (Unit)) :=
 (configIn ((y0.progs.length : Nat) : Int) 1 32).bind fun r1 =>
 if (!r1.1.1) = true then
  some ((2, ()), (()))
 else
 (lpF (σ := Int × Unit) (β := (Int × Unit) ⊕ ((Int × Unit) × (Unit))) (fun self4 x2 =>
  if x2.1 < ((y0.progs.length : Nat) : Int) then
   if 0 ≤ x2.1 ∧ x2.1 < ((y0.progs.length : Nat) : Int) then
    if 32 < (((atL [] y0.progs x2.1).length : Nat) : Int) then
     Option.map Sum.inr (
      some ((2, ()), (()))
     )
    else
    (lpF (σ := Int × Unit) (β := (Int × Unit) ⊕ ((Int × Unit) ⊕ ((Int × Unit) × (Unit)))) (fun self7 x5 =>
     if x5.1 < (((atL [] y0.progs x2.1).length : Nat) : Int) then
      if 0 ≤ x5.1 ∧ x5.1 < (((atL [] y0.progs x2.1).length : Nat) : Int) then
       (configValid y0 (atK3 (atL [] y0.progs x2.1) x5.1)).bind fun r8 =>
       if (!r8.1.1) = true then
        Option.map Sum.inr (
         Option.map Sum.inr (
          some ((1, ()), (()))
         )
        )
       else
       self7 (wi (x5.1 + 1), ())
      else none
     else
     some (Sum.inl (x5.1, ()))
    ) 18446744073709551616 (0, ())).bind fun z6 => match z6 with
    | .inr o9 => some o9
    | .inl z6 =>
    self4 (wi (x2.1 + 1), ())
   else none
  else
  some (Sum.inl (x2.1, ()))
 ) 18446744073709551616 (0, ())).bind fun z3 => match z3 with
 | .inr o10 => some o10
 | .inl z3 =>
 some ((0, ()), (()))
noncomputable abbrev configPrograms_k : Con SR1 := ⟨30, [.val 13], [.sh sI_], fun x => configPrograms x.1⟩
theorem configPrograms_ok : CO Tryz.prog configPrograms_k := co_fn mixed Tryz.func30 [configIn_k, configValid_k] ⟨configIn_ok, configValid_ok, trivial⟩ [] trivial (fun _ => []) [(4, .loopR [.rg 15 sI_] 18446744073709551616 0), (9, .loopR [.rg 24 sI_] 18446744073709551616 2)] fun x => by kernel_rfl
noncomputable def configSubmissions (y0 : Cfg) : Option ((Int × Unit) × (Unit)) :=
 if 64 < ((y0.subs.length : Nat) : Int) then
  some ((2, ()), (()))
 else
 (lpF (σ := Int × Unit) (β := (Int × Unit) ⊕ ((Int × Unit) × (Unit))) (fun self3 x1 =>
  if x1.1 < ((y0.subs.length : Nat) : Int) then
   if 0 ≤ x1.1 ∧ x1.1 < ((y0.subs.length : Nat) : Int) then
    (configIn ((atK4 y0.subs x1.1).prog) 0 (wi (((y0.progs.length : Nat) : Int) - 1))).bind fun r4 =>
    if (!r4.1.1) = true then
     Option.map Sum.inr (
      some ((3, ()), (()))
     )
    else
    (configIn ((atK4 y0.subs x1.1).level) 0 (wi (y0.levels - 1))).bind fun r5 =>
    if (!r5.1.1) = true then
     Option.map Sum.inr (
      some ((1, ()), (()))
     )
    else
    (configIn ((atK4 y0.subs x1.1).deadline) 0 16777215).bind fun r6 =>
    if (!r6.1.1) = true then
     Option.map Sum.inr (
      some ((1, ()), (()))
     )
    else
    self3 (wi (x1.1 + 1), ())
   else none
  else
  some (Sum.inl (x1.1, ()))
 ) 18446744073709551616 (0, ())).bind fun z2 => match z2 with
 | .inr o7 => some o7
 | .inl z2 =>
 some ((0, ()), (()))
noncomputable abbrev configSubmissions_k : Con SR1 := ⟨31, [.val 13], [.sh sI_], fun x => configSubmissions x.1⟩
theorem configSubmissions_ok : CO Tryz.prog configSubmissions_k := co_fn mixed Tryz.func31 [configIn_k] ⟨configIn_ok, trivial⟩ [] trivial (fun _ => []) [(4, .loopR [.rg 12 sI_] 18446744073709551616 0)] fun x => by kernel_rfl
noncomputable def configCheck (y0 : Cfg) : Option ((Int × Unit) × (Unit)) :=
 (configNumbers y0).bind fun r1 =>
 if (!r1.1.1) = true then
  some ((1, ()), (()))
 else
 (configPrograms y0).bind fun r2 =>
 if r2.1.1 ≠ 0 then
  some ((r2.1.1, ()), (()))
 else
 (configSubmissions y0).bind fun r3 =>
 some ((r3.1.1, ()), (()))
noncomputable abbrev configCheck_k : Con SR1 := ⟨19, [.val 13], [.sh sI_], fun x => configCheck x.1⟩
theorem configCheck_ok : CO Tryz.prog configCheck_k := co_fn mixed Tryz.func19 [configNumbers_k, configPrograms_k, configSubmissions_k] ⟨configNumbers_ok, configPrograms_ok, configSubmissions_ok, trivial⟩ [] trivial (fun _ => []) [] fun x => by kernel_rfl
noncomputable def layoutNew (y0 : Cfg) : Option ((LayV × Int × Unit) × (Unit)) :=
 (configCheck y0).bind fun r1 =>
 if r1.1.1 ≠ 0 then
  some (((⟨0, 0, 0, 0, 0, 0, 0, 0, 0, 0, 0⟩ : LayV), r1.1.1, ()), (()))
 else
 some ((({ y0 with sleepers := wi (4 + y0.heap), epochs := wi ((wi (4 + y0.heap)) + y0.classes), bitmaps := wi ((wi ((wi (4 + y0.heap)) + y0.classes)) + y0.workers), queues := wi ((wi ((wi ((wi (4 + y0.heap)) + y0.classes)) + y0.workers)) + y0.workers), table := wi ((wi ((wi ((wi ((wi (4 + y0.heap)) + y0.classes)) + y0.workers)) + y0.workers)) + (wi ((wi (y0.workers * y0.levels)) * (wi (2 + y0.deque))))) } : LayV), 0, ()), (()))
noncomputable abbrev layoutNew_k : Con SR1 := ⟨56, [.val 13], [.val 24, .sh sI_], fun x => layoutNew x.1⟩
theorem layoutNew_ok : CO Tryz.prog layoutNew_k := co_fn mixed Tryz.func56 [configCheck_k] ⟨configCheck_ok, trivial⟩ [] trivial (fun _ => []) [] fun x => by kernel_rfl
noncomputable def memoryNew (y0 : Int) : Option ((MemV × Unit) × (Unit)) :=
 if (if 131072 < (if y0 < 0 then 0 else y0) then 131072 else (if y0 < 0 then 0 else y0)) = (if 131072 < (if y0 < 0 then 0 else y0) then 131072 else (if y0 < 0 then 0 else y0)) then
  if 0 ≤ (if 131072 < (if y0 < 0 then 0 else y0) then 131072 else (if y0 < 0 then 0 else y0)) ∧ (if 131072 < (if y0 < 0 then 0 else y0) then 131072 else (if y0 < 0 then 0 else y0)) ≤ 1099511627776 then
   some (((⟨List.replicate ((if 131072 < (if y0 < 0 then 0 else y0) then 131072 else (if y0 < 0 then 0 else y0)) : Int).toNat (0 : Int), ⟨0, 0, 0, 0⟩, 0⟩ : MemV), ()), (()))
  else none
 else none
noncomputable abbrev memoryNew_k : Con SR1 := ⟨64, [.sh sI_], [.sh (.own 9)], fun x => memoryNew x.1⟩
theorem memoryNew_ok : CO Tryz.prog memoryNew_k := co_fn mixed Tryz.func64 [] trivial [] trivial (fun _ => []) [] fun x => by kernel_rfl
noncomputable def clockNew  : Option ((ClkV × Unit) × (Unit)) :=
 some (((⟨0, 0⟩ : ClkV), ()), (()))
noncomputable abbrev clockNew_k : Con SR1 := ⟨65, [], [.sh (.own 25)], fun x => clockNew ⟩
theorem clockNew_ok : CO Tryz.prog clockNew_k := co_fn mixed Tryz.func65 [] trivial [] trivial (fun _ => []) [] fun x => by kernel_rfl
noncomputable def machineBare (y0 : Int) : Option ((EnvP × Unit) × (Unit)) :=
 (memoryNew y0).bind fun r1 =>
 (clockNew).bind fun r2 =>
 some (((⟨⟨0, 0, 0, 0, 0, 0, 0, 0, 0, [], []⟩, ⟨0, 0, 0, 0, 0, 0, 0, 0, 0, 0, 0⟩, r1.1.1, r2.1.1, [], []⟩ : EnvP), ()), (()))
noncomputable abbrev machineBare_k : Con SR1 := ⟨57, [.sh sI_], [.sh (.own 27)], fun x => machineBare x.1⟩
theorem machineBare_ok : CO Tryz.prog machineBare_k := co_fn mixed Tryz.func57 [memoryNew_k, clockNew_k] ⟨memoryNew_ok, clockNew_ok, trivial⟩ [] trivial (fun _ => []) [] fun x => by kernel_rfl
noncomputable def clientNew (y0 : Cfg) : Option (((ClientV MV) × Unit) × (Unit)) :=
 (configClone y0).bind fun r1 =>
 if y0.workers = y0.workers then
  some (((⟨r1.1.1.subs, y0.workers, 0, 1, MV.nil, true, 0, false⟩ : (ClientV MV)), ()), (()))
 else none
noncomputable abbrev clientNew_k : Con SR1 := ⟨38, [.val 13], [.sh (.own 30)], fun x => clientNew x.1⟩
theorem clientNew_ok : CO Tryz.prog clientNew_k := co_fn mixed Tryz.func38 [configClone_k] ⟨configClone_ok, trivial⟩ [] trivial (fun _ => []) [] fun x => by kernel_rfl
noncomputable def workerNew (y0 : Int) : Option (((WorkerV MV) × Unit) × (Unit)) :=
 some (((⟨y0, 0, 0, MV.nil, 0, 0, 0⟩ : (WorkerV MV)), ()), (()))
noncomputable abbrev workerNew_k : Con SR1 := ⟨39, [.sh sI_], [.sh (.own 31)], fun x => workerNew x.1⟩
theorem workerNew_ok : CO Tryz.prog workerNew_k := co_fn mixed Tryz.func39 [] trivial [] trivial (fun _ => []) [] fun x => by kernel_rfl
end
section
open Go Go.RowKit
set_option maxRecDepth 100000
noncomputable def engineEngineGather (y0 : EngP) : Option ((Unit) × (EngP × Unit)) :=
 (lpF (σ := Int × List (WorkerV MV) × (EnvP × (ClientV MV) × List Unit × Int × List Int × Int × Int × Int × Int × Unit) × Unit) (β := Int × List (WorkerV MV) × (EnvP × (ClientV MV) × List Unit × Int × List Int × Int × Int × Int × Int × Unit) × Unit) (fun self3 x1 =>
  if x1.1 < ((y0.ws.length : Nat) : Int) then
   if 0 ≤ x1.1 ∧ x1.1 < ((x1.2.1.length : Nat) : Int) then
    if (((x1.2.2.1.2.2.1.length + 1 : Nat)) : Int) < 1000000000000 then
     self3 (wi (x1.1 + 1), x1.2.1.set x1.1.toNat (atK56 x1.2.1 x1.1), (x1.2.2.1.1, x1.2.2.1.2.1, x1.2.2.1.2.2.1 ++ [()], x1.2.2.1.2.2.2.1, x1.2.2.1.2.2.2.2.1, x1.2.2.1.2.2.2.2.2.1, x1.2.2.1.2.2.2.2.2.2.1, x1.2.2.1.2.2.2.2.2.2.2.1, x1.2.2.1.2.2.2.2.2.2.2.2.1, ()), ())
    else none
   else none
  else
  some (x1.1, x1.2.1, (x1.2.2.1.1, x1.2.2.1.2.1, x1.2.2.1.2.2.1, x1.2.2.1.2.2.2.1, x1.2.2.1.2.2.2.2.1, x1.2.2.1.2.2.2.2.2.1, x1.2.2.1.2.2.2.2.2.2.1, x1.2.2.1.2.2.2.2.2.2.2.1, x1.2.2.1.2.2.2.2.2.2.2.2.1, ()), ())
 ) 18446744073709551616 (0, y0.ws, (y0.e, y0.cl, [], y0.n, y0.stamps, y0.last.kind, y0.last.cell, y0.last.old, y0.last.new, ()), ())).bind fun z2 =>
 if (((z2.2.2.1.2.2.1.length + 1 : Nat)) : Int) < 1000000000000 then
  some ((()), ((⟨z2.2.2.1.1, z2.2.1, z2.2.2.1.2.1, z2.2.2.1.2.2.1 ++ [()], z2.2.2.1.2.2.2.1, z2.2.2.1.2.2.2.2.1, ⟨z2.2.2.1.2.2.2.2.2.1, z2.2.2.1.2.2.2.2.2.2.1, z2.2.2.1.2.2.2.2.2.2.2.1, z2.2.2.1.2.2.2.2.2.2.2.2.1⟩⟩ : EngP), ()))
 else none
noncomputable abbrev engineEngineGather_k : Con SR1 := ⟨40, [.ref 58], [], fun x => engineEngineGather x.1⟩
theorem engineEngineGather_ok : CO Tryz.prog engineEngineGather_k := co_fn mixed Tryz.func40 [] trivial [] trivial (fun _ => []) [(2, .loop [.rg 12 sI_, .rw 1 56, .cx 0 [.inl (.own 27), .inr (.sl 1), .inl (.own 30), .inl (.row 57), .inl sI_, .inl (.row 1), .inl sI_, .inl sI_, .inl sU_, .inl sU_]] 18446744073709551616 0)] fun x => by kernel_rfl
noncomputable def clientClientStatus (y0 : (ClientV MV)) : Option ((Int × Unit) × ((ClientV MV) × Unit)) :=
 (clientClientOver y0).bind fun r1 =>
 if r1.1.1 = true then
  some ((4, ()), (r1.2.1, ()))
 else
 if r1.2.1.line = 1 then
  some ((0, ()), (r1.2.1, ()))
 else
 some ((2, ()), (r1.2.1, ()))
noncomputable abbrev clientClientStatus_k : Con SR1 := ⟨43, [.ref 30], [.sh sI_], fun x => clientClientStatus x.1⟩
theorem clientClientStatus_ok : CO Tryz.prog clientClientStatus_k := co_fn mixed Tryz.func43 [clientClientOver_k] ⟨clientClientOver_ok, trivial⟩ [] trivial (fun _ => []) [] fun x => by kernel_rfl
noncomputable def workerWorkerStatus (y0 : (WorkerV MV)) : Option ((Int × Unit) × ((WorkerV MV) × Unit)) :=
 if y0.line = 0 then
  some ((0, ()), (y0, ()))
 else
 if y0.line = 7 then
  some ((2, ()), (y0, ()))
 else
 if y0.line = 8 then
  (pAsleep y0.inside).bind fun r1 =>
  if r1.1.1 = true then
   some ((3, ()), (({ y0 with inside := r1.2.1 } : (WorkerV MV)), ()))
  else
  some ((1, ()), (({ y0 with inside := r1.2.1 } : (WorkerV MV)), ()))
 else
 some ((1, ()), (y0, ()))
noncomputable abbrev workerWorkerStatus_k : Con SR1 := ⟨42, [.ref 31], [.sh sI_], fun x => workerWorkerStatus x.1⟩
theorem workerWorkerStatus_ok : CO Tryz.prog workerWorkerStatus_k := co_fn mixed Tryz.func42 [pAsleep_k] ⟨pAsleep_ok, trivial⟩ [] trivial (fun _ => []) [] fun x => by kernel_rfl
noncomputable def engineEngineDone (y0 : EngP) : Option ((Bool × Unit) × (EngP × Unit)) :=
 ((
  (clientClientStatus y0.cl).bind fun r1 =>
  if r1.1.1 ≠ 4 then
   some (true, ({ y0 with cl := r1.2.1 } : EngP), ())
  else
  (lpF (σ := Int × List (WorkerV MV) × Unit) (β := (Int × List (WorkerV MV) × Unit) ⊕ (Bool × EngP × Unit)) (fun self4 x2 =>
   if x2.1 < ((y0.ws.length : Nat) : Int) then
    if 0 ≤ x2.1 ∧ x2.1 < ((x2.2.1.length : Nat) : Int) then
     (workerWorkerStatus (atK56 x2.2.1 x2.1)).bind fun r5 =>
     if r5.1.1 = 2 then
      Option.map Sum.inr (
       some (decide (0 ≤ x2.1), ({ y0 with ws := x2.2.1.set x2.1.toNat r5.2.1, cl := r1.2.1 } : EngP), ())
      )
     else
     self4 (wi (x2.1 + 1), x2.2.1.set x2.1.toNat r5.2.1, ())
    else none
   else
   some (Sum.inl (x2.1, x2.2.1, ()))
  ) 18446744073709551616 (0, y0.ws, ())).bind fun z3 => match z3 with
  | .inr o6 => some o6
  | .inl z3 =>
  some (false, ({ y0 with ws := z3.2.1, cl := r1.2.1 } : EngP), ())
 ) : Option (Bool × EngP × Unit)).bind fun z7 =>
 if z7.1 = true then
  some ((false, ()), (z7.2.1, ()))
 else
 if z7.2.1.e.l.workers = z7.2.1.e.l.workers then
  if z7.2.1.e.l.levels = z7.2.1.e.l.levels then
   if z7.2.1.e.l.classes = z7.2.1.e.l.classes then
    if z7.2.1.e.l.tasks = z7.2.1.e.l.tasks then
     if z7.2.1.e.l.deque = z7.2.1.e.l.deque then
      if z7.2.1.e.l.heap = z7.2.1.e.l.heap then
       if z7.2.1.e.l.sleepers = z7.2.1.e.l.sleepers then
        if z7.2.1.e.l.epochs = z7.2.1.e.l.epochs then
         if z7.2.1.e.l.bitmaps = z7.2.1.e.l.bitmaps then
          if z7.2.1.e.l.queues = z7.2.1.e.l.queues then
           if z7.2.1.e.l.table = z7.2.1.e.l.table then
            (lpF (σ := Int × MemV × Unit) (β := (Int × MemV × Unit) ⊕ ((Bool × Unit) × (EngP × Unit))) (fun self10 x8 =>
             if x8.1 < z7.2.1.e.c.tasks then
              (pNext z7.2.1.e.l).bind fun r11 =>
              if r11.1.1 < 0 then
               if (wu (x8.1)) < 0 then
                (pState z7.2.1.e.l x8.1).bind fun r12 =>
                if r12.1.1 < 0 then
                 Option.map Sum.inr (
                  some ((false, ()), (({ z7.2.1 with e := ({ z7.2.1.e with m := x8.2.1 } : EnvP) } : EngP), ()))
                 )
                else
                if ((x8.2.1.cells.length : Nat) : Int) ≤ r12.1.1 then
                 Option.map Sum.inr (
                  some ((false, ()), (({ z7.2.1 with e := ({ z7.2.1.e with m := x8.2.1 } : EnvP) } : EngP), ()))
                 )
                else
                if 0 ≤ r12.1.1 ∧ r12.1.1 < ((x8.2.1.cells.length : Nat) : Int) then
                 if (atK0 x8.2.1.cells r12.1.1) ≠ 4 then
                  Option.map Sum.inr (
                   some ((false, ()), (({ z7.2.1 with e := ({ z7.2.1.e with m := x8.2.1 } : EnvP) } : EngP), ()))
                  )
                 else
                 self10 (wi (x8.1 + 1), x8.2.1, ())
                else none
               else
               some (Sum.inl (x8.1, x8.2.1, ()))
              else
              if ((x8.2.1.cells.length : Nat) : Int) ≤ r11.1.1 then
               if (wu (x8.1)) < 0 then
                (pState z7.2.1.e.l x8.1).bind fun r13 =>
                if r13.1.1 < 0 then
                 Option.map Sum.inr (
                  some ((false, ()), (({ z7.2.1 with e := ({ z7.2.1.e with m := x8.2.1 } : EnvP) } : EngP), ()))
                 )
                else
                if ((x8.2.1.cells.length : Nat) : Int) ≤ r13.1.1 then
                 Option.map Sum.inr (
                  some ((false, ()), (({ z7.2.1 with e := ({ z7.2.1.e with m := x8.2.1 } : EnvP) } : EngP), ()))
                 )
                else
                if 0 ≤ r13.1.1 ∧ r13.1.1 < ((x8.2.1.cells.length : Nat) : Int) then
                 if (atK0 x8.2.1.cells r13.1.1) ≠ 4 then
                  Option.map Sum.inr (
                   some ((false, ()), (({ z7.2.1 with e := ({ z7.2.1.e with m := x8.2.1 } : EnvP) } : EngP), ()))
                  )
                 else
                 self10 (wi (x8.1 + 1), x8.2.1, ())
                else none
               else
               some (Sum.inl (x8.1, x8.2.1, ()))
              else
              if 0 ≤ r11.1.1 ∧ r11.1.1 < ((x8.2.1.cells.length : Nat) : Int) then
               if (wu (x8.1)) < (atK0 x8.2.1.cells r11.1.1) then
                (pState z7.2.1.e.l x8.1).bind fun r14 =>
                if r14.1.1 < 0 then
                 Option.map Sum.inr (
                  some ((false, ()), (({ z7.2.1 with e := ({ z7.2.1.e with m := x8.2.1 } : EnvP) } : EngP), ()))
                 )
                else
                if ((x8.2.1.cells.length : Nat) : Int) ≤ r14.1.1 then
                 Option.map Sum.inr (
                  some ((false, ()), (({ z7.2.1 with e := ({ z7.2.1.e with m := x8.2.1 } : EnvP) } : EngP), ()))
                 )
                else
                if 0 ≤ r14.1.1 ∧ r14.1.1 < ((x8.2.1.cells.length : Nat) : Int) then
                 if (atK0 x8.2.1.cells r14.1.1) ≠ 4 then
                  Option.map Sum.inr (
                   some ((false, ()), (({ z7.2.1 with e := ({ z7.2.1.e with m := x8.2.1 } : EnvP) } : EngP), ()))
                  )
                 else
                 self10 (wi (x8.1 + 1), x8.2.1, ())
                else none
               else
               some (Sum.inl (x8.1, x8.2.1, ()))
              else none
             else
             some (Sum.inl (x8.1, x8.2.1, ()))
            ) 18446744073709551616 (0, z7.2.1.e.m, ())).bind fun z9 => match z9 with
            | .inr o15 => some o15
            | .inl z9 =>
            some ((true, ()), (({ z7.2.1 with e := ({ z7.2.1.e with m := z9.2.1 } : EnvP) } : EngP), ()))
           else none
          else none
         else none
        else none
       else none
      else none
     else none
    else none
   else none
  else none
 else none
noncomputable abbrev engineEngineDone_k : Con SR1 := ⟨24, [.ref 58], [.sh .b], fun x => engineEngineDone x.1⟩
noncomputable def engineEngineDone_tb : List (Nat × Func) := [(44, Tryz.f44), (62, Tryz.f62), (41, Tryz.f41), (45, Tryz.f45)]
theorem engineEngineDone_ok : CO Tryz.prog engineEngineDone_k := co_fn mixed Tryz.func24 [clientClientStatus_k, workerWorkerStatus_k, pNext_k, pState_k] ⟨clientClientStatus_ok, workerWorkerStatus_ok, pNext_ok, pState_ok, trivial⟩ engineEngineDone_tb ⟨Tryz.func44, Tryz.func62, Tryz.func41, Tryz.func45, trivial⟩ (fun f => (get [(62, [(2, .loopR [.rg 8 sI_, .rw 3 56] 18446744073709551616 0)])] f).getD []) [(3, .cut [.rg 20 .b, .ob 0 58] []), (6, .loopR [.rg 6 sI_, .ob 34 9] 18446744073709551616 0)] fun x => by kernel_rfl
noncomputable def r5number (r : CodV) (k : Int) : Option ((Int × Unit) × (CodV × Unit)) :=
 if r.at_ < ((r.inn.length : Nat) : Int) then
  if 0 ≤ r.at_ ∧ r.at_ < ((r.inn.length : Nat) : Int) then
   if k ≠ 0 then
    some (((Int.tmod (wi (atK17 r.inn r.at_)) k), ()), (({ r with at_ := wi (r.at_ + 1) } : CodV), ()))
   else none
  else none
 else
 some ((0, ()), (({ r with at_ := wi (r.at_ + 1) } : CodV), ()))
noncomputable abbrev r5number_k : Con SR1 := ⟨28, [.ref 19, .sh sI_], [.sh sI_], fun x => r5number x.1 x.2.1⟩
theorem r5number_ok : CO Tryz.prog r5number_k := co_fn mixed Tryz.func28 [] trivial [] trivial (fun _ => []) [] fun x => by kernel_rfl
noncomputable def r5decode (b : List Int) : Option ((Cfg × Unit) × (Unit)) :=
 (r5number (⟨b, [], 0, false⟩ : CodV) 4).bind fun r1 =>
 (r5number r1.2.1 4).bind fun r2 =>
 (r5number r2.2.1 (if wi (1 + r2.1.1) < 3 then wi (1 + r2.1.1) else 3)).bind fun r3 =>
 (r5number r3.2.1 12).bind fun r4 =>
 (r5number r4.2.1 4).bind fun r5 =>
 (r5number r5.2.1 4).bind fun r6 =>
 (r5number r6.2.1 (wi (1 + r5.1.1))).bind fun r7 =>
 (r5number r7.2.1 6).bind fun r8 =>
 (r5number r8.2.1 8).bind fun r9 =>
 (r5number r9.2.1 4).bind fun r10 =>
 (lpF (σ := Int × CodV × Cfg × Unit) (β := Int × CodV × Cfg × Unit) (fun self13 x11 =>
  if x11.1 < (wi (1 + r10.1.1)) then
   (r5number x11.2.1 6).bind fun r14 =>
   (lpF (σ := List Ins × Int × CodV × Unit) (β := List Ins × Int × CodV × Unit) (fun self17 x15 =>
    if 0 < x15.2.1 then
     (r5number x15.2.2.1 3).bind fun r18 =>
     if r18.1.1 = 0 then
      (r5number r18.2.1 4).bind fun r19 =>
      if (((x15.1.length + ([(⟨r18.1.1, wi (1 + r19.1.1), 0⟩ : Ins)] : List Ins).length : Nat)) : Int) < 1000000000000 then
       self17 (x15.1 ++ ([(⟨r18.1.1, wi (1 + r19.1.1), 0⟩ : Ins)]), wi (x15.2.1 - 1), r19.2.1, ())
      else none
     else
     if r18.1.1 = 1 then
      (r5number r18.2.1 (wi (1 + r10.1.1))).bind fun r20 =>
      (r5number r20.2.1 x11.2.2.1.levels).bind fun r21 =>
      if (((x15.1.length + ([(⟨r18.1.1, r20.1.1, r21.1.1⟩ : Ins)] : List Ins).length : Nat)) : Int) < 1000000000000 then
       self17 (x15.1 ++ ([(⟨r18.1.1, r20.1.1, r21.1.1⟩ : Ins)]), wi (x15.2.1 - 1), r21.2.1, ())
      else none
     else
     (r5number r18.2.1 4).bind fun r22 =>
     if (((x15.1.length + ([(⟨r18.1.1, r22.1.1, 0⟩ : Ins)] : List Ins).length : Nat)) : Int) < 1000000000000 then
      self17 (x15.1 ++ ([(⟨r18.1.1, r22.1.1, 0⟩ : Ins)]), wi (x15.2.1 - 1), r22.2.1, ())
     else none
    else
    some (x15.1, x15.2.1, x15.2.2.1, ())
   ) 18446744073709551616 ([], r14.1.1, r14.2.1, ())).bind fun z16 =>
   if (((x11.2.2.1.progs.length + ([z16.1] : List (List Ins)).length : Nat)) : Int) < 100000000000 then
    self13 (wi (x11.1 + 1), z16.2.2.1, ({ x11.2.2.1 with progs := x11.2.2.1.progs ++ ([z16.1]) } : Cfg), ())
   else none
  else
  some (x11.1, x11.2.1, x11.2.2.1, ())
 ) 18446744073709551616 (0, r10.2.1, (⟨wi (1 + r1.1.1), wi (1 + r2.1.1), wi (1 + r3.1.1), wi (1 + r4.1.1), wi (1 + r5.1.1), wi (1 + r6.1.1), wi (1 + r7.1.1), r8.1.1, wi (1 + r9.1.1), [], []⟩ : Cfg), ())).bind fun z12 =>
 (r5number z12.2.1 6).bind fun r23 =>
 (lpF (σ := Int × CodV × Cfg × Unit) (β := Int × CodV × Cfg × Unit) (fun self26 x24 =>
  if 0 < x24.1 then
   (r5number x24.2.1 (wi (1 + r10.1.1))).bind fun r27 =>
   (r5number r27.2.1 x24.2.2.1.levels).bind fun r28 =>
   (r5number r28.2.1 16).bind fun r29 =>
   if (((x24.2.2.1.subs.length + ([(⟨r27.1.1, r28.1.1, r29.1.1⟩ : Sub)] : List Sub).length : Nat)) : Int) < 1000000000000 then
    self26 (wi (x24.1 - 1), r29.2.1, ({ x24.2.2.1 with subs := x24.2.2.1.subs ++ ([(⟨r27.1.1, r28.1.1, r29.1.1⟩ : Sub)]) } : Cfg), ())
   else none
  else
  some (x24.1, x24.2.1, x24.2.2.1, ())
 ) 18446744073709551616 (r23.1.1, r23.2.1, z12.2.2.1, ())).bind fun z25 =>
 some ((z25.2.2.1, ()), (()))
noncomputable abbrev r5decode_k : Con SR1 := ⟨18, [.sh (.ro 17)], [.val 13], fun x => r5decode x.1⟩
theorem r5decode_ok : CO Tryz.prog r5decode_k := co_fn mixed Tryz.func18 [r5number_k] ⟨r5number_ok, trivial⟩ [] trivial (fun _ => []) [(12, .loop [.rg 6 sI_, .rg 3 (.own 19), .rg 4 (.own 20)] 18446744073709551616 0), (16, .loop [.rg 7 (.row 3), .rg 8 sI_, .rg 3 (.own 19)] 18446744073709551616 2), (29, .loop [.rg 10 sI_, .rg 3 (.own 19), .rg 4 (.own 20)] 18446744073709551616 5)] fun x => by kernel_rfl
noncomputable def kconfig (b : List Int) : Option ((Cfg × Unit) × (Unit)) :=
 (r5decode b).bind fun r1 =>
 some ((r1.1.1, ()), (()))
noncomputable abbrev kconfig_k : Con SR1 := ⟨12, [.sh (.ro 17)], [.val 13], fun x => kconfig x.1⟩
theorem kconfig_ok : CO Tryz.prog kconfig_k := co_fn mixed Tryz.func12 [r5decode_k] ⟨r5decode_ok, trivial⟩ [] trivial (fun _ => []) [] fun x => by kernel_rfl
noncomputable def eDo (x : EngP) (v : EntV) : Option (Unit × (EngP × Unit)) := none
noncomputable abbrev eDo_k : Con SR1 := ⟨25, [.ref 58, .val 5], [], fun x => none⟩
theorem eDo_ok : CO Tryz.prog eDo_k := fun x out h => by cases h
noncomputable def configMachines (y0 : Cfg) : Option ((Int × Unit) × (Unit)) :=
 some ((wi (y0.workers + 1), ()), (()))
noncomputable abbrev configMachines_k : Con SR1 := ⟨27, [.val 13], [.sh sI_], fun x => configMachines x.1⟩
theorem configMachines_ok : CO Tryz.prog configMachines_k := co_fn mixed Tryz.func27 [] trivial [] trivial (fun _ => []) [] fun x => by kernel_rfl
noncomputable def boundPlay (y0 : Cfg) (y1 : List EntV) : Option ((Int × Int × Bool × Unit) × (Unit)) :=
 (layoutNew y0).bind fun r1 =>
 if r1.1.2.1 ≠ 0 then
  if r1.1.2.1 ≠ 0 then
   if r1.1.2.1 ≠ 0 then
    some ((0, 0, false, ()), (()))
   else
   none
  else
  (clientNew y0).bind fun r2 =>
  none
 else
 (pCells r1.1.1).bind fun r3 =>
 (machineBare r3.1.1).bind fun r4 =>
 (configClone y0).bind fun r5 =>
 if r1.1.1.workers = r1.1.1.workers then
  if r1.1.1.levels = r1.1.1.levels then
   if r1.1.1.classes = r1.1.1.classes then
    if r1.1.1.tasks = r1.1.1.tasks then
     if r1.1.1.deque = r1.1.1.deque then
      if r1.1.1.heap = r1.1.1.heap then
       if r1.1.1.sleepers = r1.1.1.sleepers then
        if r1.1.1.epochs = r1.1.1.epochs then
         if r1.1.1.bitmaps = r1.1.1.bitmaps then
          if r1.1.1.queues = r1.1.1.queues then
           if r1.1.1.table = r1.1.1.table then
            if r1.1.1.workers = r1.1.1.workers then
             if r1.1.1.levels = r1.1.1.levels then
              if r1.1.1.classes = r1.1.1.classes then
               if r1.1.1.tasks = r1.1.1.tasks then
                if r1.1.1.deque = r1.1.1.deque then
                 if r1.1.1.heap = r1.1.1.heap then
                  if r1.1.1.sleepers = r1.1.1.sleepers then
                   if r1.1.1.epochs = r1.1.1.epochs then
                    if r1.1.1.bitmaps = r1.1.1.bitmaps then
                     if r1.1.1.queues = r1.1.1.queues then
                      if r1.1.1.table = r1.1.1.table then
                       (lpF (σ := Int × EnvP × Unit) (β := Int × EnvP × Unit) (fun self8 x6 =>
                        if x6.1 < y0.tasks then
                         if (((x6.2.1.recs.length + ([(⟨0, (-1), 0, 0, (-1), [], false⟩ : RecP)] : List RecP).length : Nat)) : Int) < 100000000000 then
                          self8 (wi (x6.1 + 1), ({ x6.2.1 with recs := x6.2.1.recs ++ ([(⟨0, (-1), 0, 0, (-1), [], false⟩ : RecP)]) } : EnvP), ())
                         else none
                        else
                        some (x6.1, x6.2.1, ())
                       ) 18446744073709551616 (0, ({ r4.1.1 with c := r5.1.1, l := r1.1.1 } : EnvP), ())).bind fun z7 =>
                       (clientNew y0).bind fun r9 =>
                       (lpF (σ := Int × EngP × Unit) (β := Int × EngP × Unit) (fun self12 x10 =>
                        if x10.1 < y0.workers then
                         (workerNew x10.1).bind fun r13 =>
                         if (((x10.2.1.ws.length + ([r13.1.1] : List (WorkerV MV)).length : Nat)) : Int) < 100000000000 then
                          self12 (wi (x10.1 + 1), ({ x10.2.1 with ws := x10.2.1.ws ++ ([r13.1.1]) } : EngP), ())
                         else none
                        else
                        some (x10.1, x10.2.1, ())
                       ) 18446744073709551616 (0, (⟨z7.2.1, [], r9.1.1, [], 0, [], ⟨0, 0, 0, 0⟩⟩ : EngP), ())).bind fun z11 =>
                       (engineEngineGather z11.2.1).bind fun r14 =>
                       (lpF (σ := Int × EngP × Unit) (β := Int × EngP × Unit) (fun self17 x15 =>
                        if x15.1 < ((y1.length : Nat) : Int) then
                         (engineEngineDone x15.2.1).bind fun r18 =>
                         if (!r18.1.1) = true then
                          if 0 ≤ x15.1 ∧ x15.1 < ((y1.length : Nat) : Int) then
                           (eDo r18.2.1 (atK5 y1 x15.1)).bind fun r19 =>
                           self17 (wi (x15.1 + 1), r19.2.1, ())
                          else none
                         else
                         some (x15.1, r18.2.1, ())
                        else
                        some (x15.1, x15.2.1, ())
                       ) 18446744073709551616 (0, r14.2.1, ())).bind fun z16 =>
                       agr (
                        if 0 ≤ z16.1 ∧ z16.1 ≤ ((y1.length : Nat) : Int) then
                         if y0.workers = y0.workers then
                          if y0.levels = y0.levels then
                           if y0.classes = y0.classes then
                            if y0.tasks = y0.tasks then
                             if y0.deque = y0.deque then
                              if y0.heap = y0.heap then
                               if y0.batch = y0.batch then
                                if y0.age = y0.age then
                                 if y0.patience = y0.patience then
                                  (configMachines y0).bind fun r23 =>
                                  (scRounds (y1.take (z16.1 : Int).toNat) r23.1.1).bind fun r24 =>
                                  (engineEngineDone z16.2.1).bind fun r25 =>
                                  some ((z16.1, r24.1.1, r25.1.1, ()), (()))
                                 else none
                                else none
                               else none
                              else none
                             else none
                            else none
                           else none
                          else none
                         else none
                        else none
                       ) (
                        (configMachines y0).bind fun r20 =>
                        if 0 ≤ z16.1 ∧ z16.1 ≤ ((y1.length : Nat) : Int) then
                         if y0.workers = y0.workers then
                          if y0.levels = y0.levels then
                           if y0.classes = y0.classes then
                            if y0.tasks = y0.tasks then
                             if y0.deque = y0.deque then
                              if y0.heap = y0.heap then
                               if y0.batch = y0.batch then
                                if y0.age = y0.age then
                                 if y0.patience = y0.patience then
                                  (scRounds (y1.take (z16.1 : Int).toNat) r20.1.1).bind fun r21 =>
                                  (engineEngineDone z16.2.1).bind fun r22 =>
                                  some ((z16.1, r21.1.1, r22.1.1, ()), (()))
                                 else none
                                else none
                               else none
                              else none
                             else none
                            else none
                           else none
                          else none
                         else none
                        else none
                       )
                      else none
                     else none
                    else none
                   else none
                  else none
                 else none
                else none
               else none
              else none
             else none
            else none
           else none
          else none
         else none
        else none
       else none
      else none
     else none
    else none
   else none
  else none
 else none
noncomputable abbrev boundPlay_k : Con SR1 := ⟨16, [.val 13, .sh (.ro 5)], [.sh sI_, .sh sI_, .sh .b], fun x => boundPlay x.1 x.2.1⟩
noncomputable def boundPlay_tb : List (Nat × Func) := [(23, Tryz.f23), (37, Tryz.f37)]
theorem boundPlay_ok : CO Tryz.prog boundPlay_k := co_fn mixed Tryz.func16 [layoutNew_k, clientNew_k, workerNew_k, pCells_k, machineBare_k, configClone_k, engineEngineGather_k, engineEngineDone_k, eDo_k, configMachines_k, scRounds_k] ⟨layoutNew_ok, clientNew_ok, workerNew_ok, pCells_ok, machineBare_ok, configClone_ok, engineEngineGather_ok, engineEngineDone_ok, eDo_ok, configMachines_ok, scRounds_ok, trivial⟩ boundPlay_tb ⟨Tryz.func23, Tryz.func37, trivial⟩ (fun f => (get [(23, [(6, .loop [.rg 23 sI_, .rg 6 (.own 58)] 18446744073709551616 0)]), (37, [(7, .loop [.rg 29 sI_, .rg 6 (.own 27)] 18446744073709551616 0)])] f).getD []) [(4, .loop [.rg 4 sI_, .ob 68 58] 18446744073709551616 0)] fun x => by kernel_rfl
noncomputable def worksteallaw31Awake  : Option ((Bool × Unit) × (Unit)) :=
 (kconfig ([])).bind fun r1 =>
 (boundPlay r1.1.1 ([])).bind fun r2 =>
 (bndBound 1 1 1 1 1 0 0).bind fun r3 =>
 if r3.1.1 = 14691 then
  if r2.1.1 = 0 then
   if r2.1.2.1 = 0 then
    some ((r2.1.2.2.1, ()), (()))
   else
   some ((false, ()), (()))
  else
  some ((false, ()), (()))
 else
 some ((false, ()), (()))
noncomputable abbrev worksteallaw31Awake_k : Con SR1 := ⟨7, [], [.sh .b], fun x => worksteallaw31Awake ⟩
theorem worksteallaw31Awake_ok : CO Tryz.prog worksteallaw31Awake_k := co_fn mixed Tryz.func7 [kconfig_k, boundPlay_k, bndBound_k] ⟨kconfig_ok, boundPlay_ok, bndBound_ok, trivial⟩ [] trivial (fun _ => []) [] fun x => by kernel_rfl
noncomputable def workstealref02Draw (y0 : Int) (y1 : Int) : Option ((Int × Unit) × (Unit)) :=
 if y1 < 1 then
  some ((0, ()), (()))
 else
 if y1 ≠ 0 then
  if (Int.tmod y0 y1) < 0 then
   if y1 ≠ 0 then
    some ((wi ((Int.tmod y0 y1) + y1), ()), (()))
   else none
  else
  if y1 ≠ 0 then
   some (((Int.tmod y0 y1), ()), (()))
  else none
 else none
noncomputable abbrev workstealref02Draw_k : Con SR1 := ⟨15, [.sh sI_, .sh sI_], [.sh sI_], fun x => workstealref02Draw x.1 x.2.1⟩
theorem workstealref02Draw_ok : CO Tryz.prog workstealref02Draw_k := co_fn mixed Tryz.func15 [] trivial [] trivial (fun _ => []) [] fun x => by kernel_rfl
noncomputable def worksteallaw31BoundFormula (y0 : A7) (y1 : Bool) : Option ((Bool × Unit) × (Unit)) :=
 if y1 = true then
  (workstealref02Draw (wi (Int.tdiv y0.a0 1)) 1).bind fun r1 =>
  (workstealref02Draw (wi (Int.tdiv y0.a1 1)) 8).bind fun r2 =>
  (workstealref02Draw (wi (Int.tdiv y0.a2 1)) 64).bind fun r3 =>
  (workstealref02Draw (wi (Int.tdiv y0.a3 1)) 512).bind fun r4 =>
  (workstealref02Draw (wi (Int.tdiv y0.a4 1)) 4096).bind fun r5 =>
  (workstealref02Draw (wi (Int.tdiv y0.a5 1)) 32768).bind fun r6 =>
  (workstealref02Draw (wi (Int.tdiv y0.a6 1)) 262144).bind fun r7 =>
  (worksteallaw31Awake).bind fun r8 =>
  if r8.1.1 = true then
   (bndBound r1.1.1 r2.1.1 r3.1.1 r4.1.1 r5.1.1 r6.1.1 r7.1.1).bind fun r9 =>
   if r7.1.1 = r7.1.1 then
    if r6.1.1 = r6.1.1 then
     if r5.1.1 = r5.1.1 then
      if r4.1.1 = r4.1.1 then
       if r3.1.1 = r3.1.1 then
        if r2.1.1 = r2.1.1 then
         if r1.1.1 = r1.1.1 then
          (refBound r1.1.1 r2.1.1 r3.1.1 r4.1.1 r5.1.1 r6.1.1 r7.1.1).bind fun r10 =>
          some ((decide (r9.1.1 = r10.1.1), ()), (()))
         else none
        else none
       else none
      else none
     else none
    else none
   else none
  else
  some ((false, ()), (()))
 else
 (worksteallaw31Awake).bind fun r11 =>
 if r11.1.1 = true then
  (bndBound y0.a0 y0.a1 y0.a2 y0.a3 y0.a4 y0.a5 y0.a6).bind fun r12 =>
  if y0.a6 = y0.a6 then
   if y0.a5 = y0.a5 then
    if y0.a4 = y0.a4 then
     if y0.a3 = y0.a3 then
      if y0.a2 = y0.a2 then
       if y0.a1 = y0.a1 then
        if y0.a0 = y0.a0 then
         (refBound y0.a0 y0.a1 y0.a2 y0.a3 y0.a4 y0.a5 y0.a6).bind fun r13 =>
         some ((decide (r12.1.1 = r13.1.1), ()), (()))
        else none
       else none
      else none
     else none
    else none
   else none
  else none
 else
 some ((false, ()), (()))
noncomputable abbrev worksteallaw31BoundFormula_k : Con SR1 := ⟨3, [.val 59, .sh .b], [.sh .b], fun x => worksteallaw31BoundFormula x.1 x.2.1⟩
noncomputable def worksteallaw31BoundFormula_tb : List (Nat × Func) := [(6, Tryz.f6)]
theorem worksteallaw31BoundFormula_ok : CO Tryz.prog worksteallaw31BoundFormula_k := co_fn mixed Tryz.func3 [workstealref02Draw_k, worksteallaw31Awake_k, bndBound_k, refBound_k] ⟨workstealref02Draw_ok, worksteallaw31Awake_ok, bndBound_ok, refBound_ok, trivial⟩ worksteallaw31BoundFormula_tb ⟨Tryz.func6, trivial⟩ (fun _ => []) [(3, .unroll 8)] fun x => by kernel_rfl
end
section
open Go Go.RowKit
set_option maxRecDepth 100000
theorem bind_guard {α β : Type} {G : Prop} [d : Decidable G] (A : Option α) (f : α → Option β) : (A.bind fun r => if G then f r else none) = if G then A.bind f else none := by
  by_cases h : G
  · simp only [if_pos h]
  · simp only [if_neg h]; cases A <;> rfl
theorem awake_cfg : kconfig [] = some ((⟨1, 1, 1, 1, 1, 1, 1, 0, 1, [[]], []⟩, ()), ()) := by kernel_rfl
theorem play_nil : boundPlay ⟨1, 1, 1, 1, 1, 1, 1, 0, 1, [[]], []⟩ [] = some ((0, 0, true, ()), ()) := by
  unfold boundPlay
  simp only [bind_guard, agr_self]
  kernel_rfl
theorem awake_true : worksteallaw31Awake = some ((true, ()), ()) := by
  unfold worksteallaw31Awake
  rw [awake_cfg, Option.bind_some, play_nil]
  kernel_rfl
end
section
open Go Go.RowKit
set_option maxRecDepth 100000
theorem draw_some (x n : Int) (h1 : 1 ≤ n) (h2 : n ≤ 1000000000) : ∃ r, workstealref02Draw x n = some ((r, ()), ()) ∧ 0 ≤ r ∧ r < n := by
  have hn : ¬ n < 1 := by omega
  have hz : n ≠ 0 := by omega
  unfold workstealref02Draw
  rw [if_neg hn, if_pos hz]
  have hb : -n < Int.tmod x n ∧ Int.tmod x n < n := by
    have e1 := Int.tmod_lt_of_pos x (show 0 < n by omega)
    have e2 := Int.lt_tmod_of_pos x (show 0 < n by omega)
    exact ⟨e2, e1⟩
  by_cases h : Int.tmod x n < 0
  · rw [if_pos h, if_pos hz]
    have e : wi (Int.tmod x n + n) = Int.tmod x n + n := w64 (by omega) (by omega)
    exact ⟨_, by rw [e], by omega, by omega⟩
  · rw [if_neg h, if_pos hz]
    exact ⟨_, rfl, by omega, by omega⟩
theorem bind_some' {α β : Type} (a : α) (f : α → Option β) : (some a).bind f = f a := rfl
def Rg7 (x : A7) : Prop := Rg64 x.a6
theorem formula_true (y : A7) (near : Bool) (h : Rg7 y) : worksteallaw31BoundFormula y near = some ((true, ()), ()) := by
  unfold worksteallaw31BoundFormula
  obtain ⟨r1, e1, a1, b1⟩ := draw_some (wi (Int.tdiv y.a0 1)) 1 (by omega) (by omega)
  obtain ⟨r2, e2, a2, b2⟩ := draw_some (wi (Int.tdiv y.a1 1)) 8 (by omega) (by omega)
  obtain ⟨r3, e3, a3, b3⟩ := draw_some (wi (Int.tdiv y.a2 1)) 64 (by omega) (by omega)
  obtain ⟨r4, e4, a4, b4⟩ := draw_some (wi (Int.tdiv y.a3 1)) 512 (by omega) (by omega)
  obtain ⟨r5, e5, a5, b5⟩ := draw_some (wi (Int.tdiv y.a4 1)) 4096 (by omega) (by omega)
  obtain ⟨r6, e6, a6, b6⟩ := draw_some (wi (Int.tdiv y.a5 1)) 32768 (by omega) (by omega)
  obtain ⟨r7, e7, a7, b7⟩ := draw_some (wi (Int.tdiv y.a6 1)) 262144 (by omega) (by omega)
  have g7 : Rg64 r7 := ⟨by omega, by omega⟩
  have h' : Rg64 y.a6 := h
  simp only [e1, e2, e3, e4, e5, e6, e7, awake_true, bind_some', if_true, bndBound, refBound, if_pos g7, if_pos h', decide_true]
  cases near <;> rfl
end
section
open Go.ChangeShapes Go.WideShapes Go.RowKit Go.Deep
set_option maxRecDepth 100000
theorem okWide_array {P : Program} {w : World} {r : Reach} {b0 : Nat} {t e : TypeId} {n : Nat} {v : Value} (ht : P.underlying t = some (.array n e)) (h : Value.okWide P w r b0 t v) : ∃ cs, v = .agg cs ∧ cs.size = P.cellsOf t := by
  simp only [Value.okWide, ht] at h
  obtain ⟨cs, h1, h2, _⟩ := h
  exact ⟨cs, h1, h2⟩
section
variable {H : Type} {enc : TypeId × Value → H} {w : World} {base : Nat} {spare : Nat → Bool} {held : Bool}
theorem bool_in {v : Value} {d : DataW H} {p : List MemPlace} {r : Reach} {b0 : Nat} (hv : Value.okWide Tryz.prog w r b0 4 v) (_ : DataW.Trod enc Tryz.prog w base spare held 4 v d p) : ∃ z : Bool, True ∧ ∀ {L}, Sat w.heap.size w L → Sat w.heap.size w (pcS SR1.kt (.b z) v :: L) := by
  obtain ⟨b, rfl⟩ := okWide_bool Tryz.underlying4 hv
  exact ⟨b, trivial, fun s => sat_bI (S := SR1) s⟩
theorem cells7 : Tryz.prog.cellsOf 22 = 7 := by kernel_rfl
theorem a7_in {v : Value} {d : DataW H} {p : List MemPlace} {r : Reach} {b0 : Nat} (hv : Value.okWide Tryz.prog w r b0 22 v) (h : DataW.Trod enc Tryz.prog w base spare held 22 v d p) : ∃ z : A7, Rg7 z ∧ ∀ {L}, Sat w.heap.size w L → Sat w.heap.size w (valS SR1 59 z v :: L) := by
  obtain ⟨cs, rfl, hsz⟩ := okWide_array Tryz.underlying22 hv
  obtain ⟨fuel, hf⟩ := h
  obtain ⟨xs, m, _, _, _, hx, hg⟩ := DataW.trod_array Tryz.underlying22 hf
  obtain ⟨l⟩ := cs
  have hl : l.length = 7 := hsz.trans cells7
  have key : ∀ i, i < 7 → ∃ z : Int, (-9223372036854775808 ≤ z ∧ z ≤ 9223372036854775807) ∧ l[i]? = some (.int .i64 z) := fun i hi => by
    have h1 := hg i hi
    rw [cellsInt, Nat.mul_one] at h1
    have hxi : ∃ d, xs[i]? = some d := ⟨xs[i]'(by omega), List.getElem?_eq_getElem _⟩
    obtain ⟨d, hd⟩ := hxi
    rw [hd] at h1
    obtain ⟨z, hz, _, hw⟩ := DataW.trod_int Tryz.underlying3 h1
    refine ⟨z, wf_int hw, ?_⟩
    have := congrArg (fun l : List Value => l[0]?) hz
    simpa [Value.cells] using this
  match l, hl, key with
  | [y0, y1, y2, y3, y4, y5, y6], _, key =>
    obtain ⟨z0, _, e0⟩ := key 0 (by omega)
    obtain ⟨z1, _, e1⟩ := key 1 (by omega)
    obtain ⟨z2, _, e2⟩ := key 2 (by omega)
    obtain ⟨z3, _, e3⟩ := key 3 (by omega)
    obtain ⟨z4, _, e4⟩ := key 4 (by omega)
    obtain ⟨z5, _, e5⟩ := key 5 (by omega)
    obtain ⟨z6, w6, e6⟩ := key 6 (by omega)
    obtain rfl : y0 = .int .i64 z0 := Option.some.inj e0
    obtain rfl : y1 = .int .i64 z1 := Option.some.inj e1
    obtain rfl : y2 = .int .i64 z2 := Option.some.inj e2
    obtain rfl : y3 = .int .i64 z3 := Option.some.inj e3
    obtain rfl : y4 = .int .i64 z4 := Option.some.inj e4
    obtain rfl : y5 = .int .i64 z5 := Option.some.inj e5
    obtain rfl : y6 = .int .i64 z6 := Option.some.inj e6
    exact ⟨⟨z0, z1, z2, z3, z4, z5, z6⟩, w6, fun s => sat_valI (S := SR1) (c := 59) (x := (⟨z0, z1, z2, z3, z4, z5, z6⟩ : A7)) rfl s⟩
end
end
end Go.Proofs.YtnfblhckpmofcaaGreat
