/- slices.Clone at the slices of a configuration, in the evaluator's words. Walks: the checks of a configuration (config and its reference), function by function. Walks: the checks of a configuration's programs and submissions (config). Walks: the check of a configuration (its reference), and whether it is small. Walks: the bound (bound.parts, bound.Bound and the reference's Bound). Walks: bound.Bound and the reference's Bound. Walk: script.Rounds of no entries. Contracts of the checks and of the bound, in the evaluator's words. The engine made anew, in the evaluator's form. -/
import Derived.Test.YtnfblhckpmofcaaGreatQgah
import Derived.Test.YtnfblhckpmofcaaGreatRows
import Derived.Test.YtnfblhckpmofcaaGreatQgaa
import Derived.OwnWalk
import Derived.WalkMore
import Derived.Handy
import Derived.Carry
set_option linter.all false
namespace Go.Proofs.YtnfblhckpmofcaaGreat
section
open Go Go.RowKit
noncomputable def cloneIns (l : List Ins) : Option ((List Ins × Unit) × Unit) := if l.length ≤ 1000000 then some ((l, ()), ()) else none
noncomputable abbrev cloneIns_k : Con SR1 := ⟨67, [.sh (.ro 3)], [.sh (.row 3)], fun x => cloneIns x.1⟩
noncomputable def cloneSubs (l : List Sub) : Option ((List Sub × Unit) × Unit) := if l.length ≤ 1000000 then some ((l, ()), ()) else none
noncomputable abbrev cloneSubs_k : Con SR1 := ⟨68, [.sh (.ro 4)], [.sh (.row 4)], fun x => cloneSubs x.1⟩
/-- A function that makes a row of its own out of a list. -/
theorem co_clone {f : FuncId} (hf : Nat.blt f mBase = true) {c sz : Nat} {el : TypeId} (hp : ∀ x, pureB (SR1.kt.vw c x) = true) (hsz : SR1.kt.sz c = sz) {spec : List (SR1.T c) → Option ((List (SR1.T c) × Unit) × Unit)} (hspec : ∀ l o, spec l = some o → o = ((l, ()), ()) ∧ l.length ≤ 1000000)
    (h : ∀ (A : Option Addr) (cap : Nat) (xs : List (SR1.T c)) (w : World), Sl (encF SR1.kt c) sz w w.heap.size A xs → xs.length ≤ 1000000 → Calls Tryz.prog f #[.slice A xs.length cap] w (CloneP (encF SR1.kt c) sz el w xs)) :
    CO Tryz.prog ⟨f, [.sh (.ro c)], [.sh (.row c)], fun x => spec x.1⟩ := fun x out hx B W vs F w hw => by
  obtain ⟨hb, hB, hs⟩ := hw
  obtain ⟨ho, hl⟩ := hspec x.1 out hx
  subst ho
  show CallsM Tryz.prog f _ w _
  rw [callsM_fn hf]
  rcases vs with _ | ⟨v, _ | ⟨v2, vs⟩⟩
  · exact sat_false hs
  · replace hs : Sat B w [pcS SR1.kt (.ro c x.1) v, F] := hs
    obtain ⟨A, cap, rfl, hsl⟩ := sat_ro hs
    have s1 := hs.drop
    rw [hsz] at hsl
    refine (h A cap x.1 w hsl hl).mono fun e w' ⟨⟨A', c', he, hown⟩, hb'⟩ => ⟨[.slice A' (List.length x.1) c'], he, hb.trans (hb'.mono hB), Nat.le_trans hB hb'.size, ?_⟩
    have s2 := sat_new_row s1 hb' hB hown
    rw [← hsz] at s2
    exact sat_row_plain hp s2
  · replace hs : Sat B w (pcS SR1.kt (.ro c x.1) v :: ([fun _ => False] ++ [F])) := hs
    exact sat_false hs.drop
theorem cloneIns_ok : CO Tryz.prog cloneIns_k := co_clone rfl (c := 3) (sz := 3) (fun _ => rfl) rfl (spec := cloneIns) (fun l o h => by
  unfold cloneIns at h
  split at h
  · rename_i hl; cases h; exact ⟨rfl, hl⟩
  · cases h) fun A cap xs w hx hn => cloneIns_any A cap xs w hx hn
theorem cloneSubs_ok : CO Tryz.prog cloneSubs_k := co_clone rfl (c := 4) (sz := 3) (fun _ => rfl) rfl (spec := cloneSubs) (fun l o h => by
  unfold cloneSubs at h
  split at h
  · rename_i hl; cases h; exact ⟨rfl, hl⟩
  · cases h) fun A cap xs w hx hn => cloneSubs_any A cap xs w hx hn
/-! ### The outer slice -/
noncomputable def cloneRows (l : List (List Ins)) : Option ((List (List Ins) × Unit) × Unit) := if l.length ≤ 1000000 then some ((l, ()), ()) else none
noncomputable abbrev cloneRows_k : Con SR1 := ⟨66, [.sh (.rr 3)], [.sh (.row 18)], fun x => cloneRows x.1⟩
def hdrs (xss : List (List Ins)) (ps : List (Option Addr × Nat)) : List (Option Addr × Nat × Nat) := List.zipWith (fun xs a => (a.1, xs.length, a.2)) xss ps
theorem look_rows {Φ : World → Prop} {L : List SProp} : ∀ (xss : List (List Ins)) (ps : List (Option Addr × Nat)), xss.length = ps.length → (∀ u, Φ u → ∀ (i : Nat) xs a, xss[i]? = some xs → ps[i]? = some a → Sl (encF SR1.kt 3) 3 u u.heap.size a.1 xs ∧ xs.length ≤ a.2) →
    Ent (lookS Φ :: L) (rwsS SR1.kt (pcS SR1.kt) 18 xss ((hdrs xss ps).map encSl) ++ lookS Φ :: L)
  | [], [], _, _ => Ent.refl
  | [], _ :: _, h, _ => by cases h
  | _ :: _, [], h, _ => by cases h
  | xs :: xss, a :: ps, hl, hΦ => by
    have ih := look_rows (Φ := Φ) (L := L) xss ps (by simpa using hl) fun u hu i ys b h1 h2 => hΦ u hu (i + 1) ys b h1 h2
    refine look_dup.trans (fun h hs => ?_)
    have h1 := star_tail (A := lookS Φ) ih hs
    refine star_head (A' := pcS SR1.kt (.ro 3 xs) (.slice a.1 xs.length a.2)) (fun k hk => ?_) h1
    refine pcS_iff.2 (show pcW SR1.kt (obS SR1.kt) (rwS SR1.kt) (.ro 3 xs) (.slice a.1 xs.length a.2) k from ⟨a.1, a.2, rfl, ?_⟩)
    exact look_mono (fun u hu => hΦ u hu 0 xs a rfl rfl) _ hk
theorem rows_fin {B : Nat} {w : World} {A R F : SProp} {N : List SProp} (s : Sat B w (N ++ A :: [R, F])) : Sat B w ((R :: N) ++ [A, F]) := s.perm (perm_cnt fun f g h1 h2 h3 => by simp only [List.cons_append, h1, h2, h3]; omega)
theorem cloneRows_aux (xss : List (List Ins)) (hl : xss.length ≤ 1000000) (B : Nat) (W : World) (v : Value) (F : SProp) (w : World) (hw : Cls B W [pcS SR1.kt (.rr 3 xss) v, F] w) :
    Calls Tryz.prog cloneRows_k.f #[v] w fun e w' => ∃ u, e = .returned u ∧ Cls B W [pcS SR1.kt (.row 18 xss) u, F] w' := by
  obtain ⟨hb, hB, hs⟩ := hw
  have s1 : Sat B w ((fun h => ∃ A cap, v = .slice A xss.length cap ∧ rrS (encF SR1.kt 3) (SR1.kt.sz 3) A cap xss h) :: [F]) := sat_head (pc_cases (S := SR1) (f := .rr 3 xss) (fun _ h => h) fun _ _ h => h) hs
  obtain ⟨h, H, k1, k2, a, e, ⟨A, cap, rfl, ps0, h1⟩, h2⟩ := s1
  have s2 : Sat B w (lookS _ :: [F]) := ⟨h, H, k1, k2, a, e, h1, h2⟩
  have h3 := look_sat s2 List.mem_cons_self
  have hps : xss.length ≤ ps0.length := by
    rcases Nat.eq_zero_or_pos xss.length with h0 | h0
    · omega
    · obtain ⟨a, ha, _⟩ := h3.2 (xss.length - 1) _ (List.getElem?_eq_getElem (Nat.sub_lt h0 Nat.one_pos))
      have := (List.getElem?_eq_some_iff.1 ha).1
      omega
  obtain ⟨ps, hpe⟩ : ∃ ps, ps = ps0.take xss.length := ⟨_, rfl⟩
  have hpl : xss.length = ps.length := by rw [hpe, List.length_take]; omega
  have hpg : ∀ (i : Nat) b, ps[i]? = some b → ps0[i]? = some b := fun i b hb => by
    rw [hpe, List.getElem?_take] at hb
    split at hb
    · exact hb
    · cases hb
  have hrl : (hdrs xss ps).length = xss.length := by unfold hdrs; rw [List.length_zipWith]; omega
  have hsl : Sl encSl 1 w w.heap.size A (hdrs xss ps) := by
    refine ⟨by omega, fun hne => ?_⟩
    have hpos : 0 < xss.length := by rw [← hrl]; exact List.length_pos_iff.2 hne
    obtain ⟨a0, _, _, b, o, hA, hlt, _⟩ := h3.2 0 _ (List.getElem?_eq_getElem hpos)
    refine ⟨b, o, hA, hlt, fun i x hi j u hu => ?_⟩
    unfold hdrs at hi
    rw [List.getElem?_zipWith] at hi
    cases hx : xss[i]? with
    | none => rw [hx] at hi; simp at hi
    | some xs =>
      cases hy : ps[i]? with
      | none => rw [hx, hy] at hi; simp at hi
      | some a =>
        rw [hx, hy] at hi
        obtain rfl := Option.some.inj hi
        obtain ⟨a', ha', _, b', o', hA', _, hc⟩ := h3.2 i xs hx
        rw [hpg i a hy] at ha'
        obtain rfl := Option.some.inj ha'
        rw [hA] at hA'
        cases hA'
        cases j with
        | zero =>
          obtain rfl := Option.some.inj hu
          rw [Nat.mul_one, Nat.add_zero]; exact hc
        | succ j => simp [encSl] at hu
  have hcl := cloneRows_any A cap (hdrs xss ps) w hsl (by omega)
  rw [hrl] at hcl
  refine hcl.mono fun e w' ⟨⟨A', c', he, hown⟩, hb'⟩ => ⟨.slice A' xss.length c', by rw [he, hrl], hb.trans (hb'.mono hB), Nat.le_trans hB hb'.size, ?_⟩
  rw [hrl] at hown
  have s3 := sat_new_row s2 hb' hB hown
  have s4 : Sat B w' (lookS _ :: [rowS A' xss.length c' 1 ((hdrs xss ps).flatMap encSl), F]) := s3.perm (List.Perm.swap ..)
  have s5 := s4.imp (look_rows xss ps hpl fun u hu i xs a hx hy => by
    obtain ⟨a', ha', hq, _⟩ := hu.2 i xs hx
    rw [hpg i a hy] at ha'
    obtain rfl := Option.some.inj ha'
    exact hq)
  have s6 := rows_fin s5
  have s7 := sat_wrapN (A := pcS SR1.kt (.row 18 xss) (.slice A' xss.length c')) (fun k hk => pcS_iff.2 (show pcW SR1.kt (obS SR1.kt) (rwS SR1.kt) (.row 18 xss) _ k from ⟨A', c', rfl, rwS_iff.2 ⟨(hdrs xss ps).map encSl, by
    rw [show ((hdrs xss ps).map encSl).flatten = (hdrs xss ps).flatMap encSl from by rw [List.flatMap_def]]
    exact hk⟩⟩)) s6
  exact (s7.perm (List.Perm.swap ..)).drop
theorem cloneRows_ok : CO Tryz.prog cloneRows_k := fun x out hx B W vs F w hw => by
  obtain ⟨hb, hB, hs⟩ := hw
  replace hx : cloneRows x.1 = some out := hx
  unfold cloneRows at hx
  split at hx
  · rename_i hl
    cases hx
    show CallsM Tryz.prog cloneRows_k.f _ w _
    rw [callsM_fn rfl]
    rcases vs with _ | ⟨v, _ | ⟨v2, vs⟩⟩
    · exact sat_false hs
    · exact (cloneRows_aux x.1 hl B W v F w ⟨hb, hB, hs⟩).mono fun e w' ⟨u, he, h⟩ => ⟨[u], he, h⟩
    · replace hs : Sat B w (pcS SR1.kt (.rr 3 x.1) v :: ([fun _ => False] ++ [F])) := hs
      exact sat_false hs.drop
  · cases hx
end
section
open Go.RowKit
end
section
open Go.RowKit
/-- The box of a configuration. -/
@[reducible] def cfgBox (c : Cfg) (l : CfgAt) : Obj := .cells #[.int .i64 c.workers, .int .i64 c.levels, .int .i64 c.classes, .int .i64 c.tasks, .int .i64 c.deque, .int .i64 c.heap, .int .i64 c.batch, .int .i64 c.age, .int .i64 c.patience, .slice l.pa c.progs.length l.pc, .slice l.sa c.subs.length l.sc] 33
end
section
open Go.RowKit
/-- Small: the numbers, then the programs' lengths. -/
def SmallNums (c : Cfg) : Prop := c.workers ≤ 16 ∧ c.levels ≤ 8 ∧ c.tasks ≤ 16 ∧ c.deque ≤ 8 ∧ c.heap ≤ 8 ∧ c.progs.length ≤ 8 ∧ c.subs.length ≤ 12
instance (c : Cfg) : Decidable (SmallNums c) := by unfold SmallNums; exact inferInstance
end
section
open Go.RowKit
/-- The seven numbers are in range. -/
def InRange (w l c p t s g : Int) : Prop := (0 ≤ w ∧ w ≤ 131072) ∧ (0 ≤ l ∧ l ≤ 131072) ∧ (0 ≤ c ∧ c ≤ 131072) ∧ (0 ≤ p ∧ p ≤ 131072) ∧ (0 ≤ t ∧ t ≤ 131072) ∧ (0 ≤ s ∧ s ≤ 131072) ∧ (0 ≤ g ∧ g ≤ 1048576)
instance (w l c p t s g : Int) : Decidable (InRange w l c p t s g) := by unfold InRange; infer_instance
def runV (w l c t g : Int) : Int := (g + 2 * t + 1) * (64 + 2 * c + 16 * t) + 4 * t * l * (w + 1)
def progV (l t s g : Int) : Int := 4 * t + 4 * g + 8 * t * l + 8 * s + 4
def seekV (w l c p : Int) : Int := 8 * (64 + 11 * l + 16 * w + p) + 64 + 2 * c
def boundV (w l c p t s g : Int) : Int := if InRange w l c p t s g then runV w l c t g + t + g + (progV l t s g + 2) * seekV w l c p else 0
/-- The products keep within their bounds. -/
def ProdOk (w l c p t s g : Int) : Prop :=
  (0 ≤ 4 * t * l ∧ 4 * t * l ≤ 68719476736) ∧ (0 ≤ 8 * t * l ∧ 8 * t * l ≤ 137438953472) ∧ (0 ≤ (g + 2 * t + 1) * (64 + 2 * c + 16 * t) ∧ (g + 2 * t + 1) * (64 + 2 * c + 16 * t) ≤ 9007199254740992) ∧ (0 ≤ 4 * t * l * (w + 1) ∧ 4 * t * l * (w + 1) ≤ 18014398509481984) ∧
  (0 ≤ (progV l t s g + 2) * seekV w l c p ∧ (progV l t s g + 2) * seekV w l c p ≤ 4611686018427387904)
theorem mul_le_mul_of {a b A B : Int} (ha : 0 ≤ a) (hA : a ≤ A) (hb : 0 ≤ b) (hB : b ≤ B) : 0 ≤ a * b ∧ a * b ≤ A * B :=
  ⟨Int.mul_nonneg ha hb, Int.le_trans (Int.mul_le_mul_of_nonneg_right hA hb) (Int.mul_le_mul_of_nonneg_left hB (Int.le_trans ha hA))⟩
theorem prodOk {w l c p t s g : Int} (h : InRange w l c p t s g) : ProdOk w l c p t s g := by
  obtain ⟨hw, hl, hc, hp, ht, hs, hg⟩ := h
  have h1 := mul_le_mul_of (a := 4 * t) (b := l) (A := 524288) (B := 131072) (by omega) (by omega) hl.1 hl.2
  have h2 := mul_le_mul_of (a := 8 * t) (b := l) (A := 1048576) (B := 131072) (by omega) (by omega) hl.1 hl.2
  have h3 := mul_le_mul_of (a := g + 2 * t + 1) (b := 64 + 2 * c + 16 * t) (A := 1310721) (B := 2359360) (by omega) (by omega) (by omega) (by omega)
  have h4 := mul_le_mul_of (a := 4 * t * l) (b := w + 1) (A := 68719476736) (B := 131073) h1.1 (by omega) (by omega) (by omega)
  have h5 := mul_le_mul_of (a := progV l t s g + 2) (b := seekV w l c p) (A := 137444720646) (B := 29622848) (by unfold progV; omega) (by unfold progV; omega) (by unfold seekV; omega) (by unfold seekV; omega)
  unfold ProdOk
  omega
set_option maxHeartbeats 1000000 in
theorem parts_any (w l c p t s g : Int) (wl : World) (h : InRange w l c p t s g) :
    Calls Tryz.prog 17 #[.int .i64 w, .int .i64 l, .int .i64 c, .int .i64 p, .int .i64 t, .int .i64 s, .int .i64 g] wl fun e w' => e = .returned (.tuple #[.int .i64 (runV w l c t g), .int .i64 (progV l t s g), .int .i64 (seekV w l c p)]) ∧ wl = w' := by
  have hp := prodOk h
  unfold InRange at h
  unfold ProdOk at hp
  unfold runV
  unfold progV seekV at hp ⊢
  obtain ⟨⟨_, _⟩, ⟨_, _⟩, ⟨_, _⟩, ⟨_, _⟩, ⟨_, _⟩, ⟨_, _⟩, ⟨_, _⟩⟩ := h
  obtain ⟨⟨_, _⟩, ⟨_, _⟩, ⟨_, _⟩, ⟨_, _⟩, ⟨_, _⟩⟩ := hp
  go_enter Tryz.func17, Tryz.ntmps17
  go_wp2
  go_ret3
  exact ⟨rfl, rfl⟩
end
section
open Go.RowKit
def ati (xs : List Int) (i : Nat) : Int := xs.getD i 0
def OkTo (xs : List Int) (k : Nat) : Prop := ∀ i, i < k → 0 ≤ ati xs i ∧ ati xs i ≤ 131072
theorem OkTo.next {xs : List Int} {k : Nat} (h : OkTo xs k) (h1 : 0 ≤ ati xs k) (h2 : ati xs k ≤ 131072) : OkTo xs (k + 1) := fun i hi => by
  rcases Nat.lt_or_ge i k with h3 | h3
  · exact h i h3
  · have e : i = k := by omega
    subst e; exact ⟨h1, h2⟩
theorem inRange_of {w l c p t s g : Int} (h : OkTo [w, l, c, p, t, s] 6) (hg : 0 ≤ g ∧ g ≤ 1048576) : InRange w l c p t s g :=
  ⟨h 0 (by omega), h 1 (by omega), h 2 (by omega), h 3 (by omega), h 4 (by omega), h 5 (by omega), hg⟩
theorem InRange.at_ {w l c p t s g : Int} (h : InRange w l c p t s g) (i : Nat) : 0 ≤ ati [w, l, c, p, t, s] i ∧ ati [w, l, c, p, t, s] i ≤ 131072 := by
  obtain ⟨h0, h1, h2, h3, h4, h5, _⟩ := h
  match i with
  | 0 => exact h0
  | 1 => exact h1
  | 2 => exact h2
  | 3 => exact h3
  | 4 => exact h4
  | 5 => exact h5
  | k + 6 => simp [ati, List.getD]
theorem boundV_zero {w l c p t s g : Int} {k : Nat} (h : ¬ (0 ≤ ati [w, l, c, p, t, s] k ∧ ati [w, l, c, p, t, s] k ≤ 131072)) : boundV w l c p t s g = 0 := by
  unfold boundV
  exact if_neg fun hr => h (hr.at_ k)
theorem boundV_zero_g {w l c p t s g : Int} (h : ¬ (0 ≤ g ∧ g ≤ 1048576)) : boundV w l c p t s g = 0 := by
  unfold boundV
  exact if_neg fun hr => h hr.2.2.2.2.2.2
theorem six_cell {w : World} {g : Nat} {ty : TypeId} {a b c d e f : Int} (h : Blk w g ty #[.int .i64 a, .int .i64 b, .int .i64 c, .int .i64 d, .int .i64 e, .int .i64 f]) {k : Nat} (hk : k < 6) : w.cell? ⟨g, k, none⟩ = some (.int .i64 (ati [a, b, c, d, e, f] k)) := by
  rw [h.cell]
  match k, hk with
  | 0, _ => rfl
  | 1, _ => rfl
  | 2, _ => rfl
  | 3, _ => rfl
  | 4, _ => rfl
  | 5, _ => rfl
set_option maxHeartbeats 2000000 in
theorem bound_any (w l c p t s g : Int) (wl : World) (hi : (-9223372036854775808 ≤ g ∧ g ≤ 9223372036854775807)) :
    Calls Tryz.prog 8 #[.int .i64 w, .int .i64 l, .int .i64 c, .int .i64 p, .int .i64 t, .int .i64 s, .int .i64 g] wl fun e w' => e = .returned (.int .i64 (boundV w l c p t s g)) ∧ Below wl.heap.size wl w' := by
  obtain ⟨R, hR⟩ : ∃ R, R = boundV w l c p t s g := ⟨_, rfl⟩
  rw [← hR]
  have HR := Lib.hid hR
  clear hR
  by_cases hg : 0 ≤ g ∧ g ≤ 1048576
  · go_enter Tryz.func8, Tryz.ntmps8
    go_wp2_with fail
    have hB1 : Below wl.heap.size wl (wl.alloc (.cells #[.int .i64 w, .int .i64 l, .int .i64 c, .int .i64 p, .int .i64 t, .int .i64 s] 3)) := (Below.refl _ _).alloc (Nat.le_refl _) _
    have hK1 : Blk (wl.alloc (.cells #[.int .i64 w, .int .i64 l, .int .i64 c, .int .i64 p, .int .i64 t, .int .i64 s] 3)) wl.heap.size 3 #[.int .i64 w, .int .i64 l, .int .i64 c, .int .i64 p, .int .i64 t, .int .i64 s] := Blk.new _ _ _
    generalize hw1 : (wl.alloc (.cells #[.int .i64 w, .int .i64 l, .int .i64 c, .int .i64 p, .int .i64 t, .int .i64 s] 3)) = w1 at *
    go_loopw [34] (fun i wr => ∃ k : Nat, k ≤ 6 ∧ i = .int .i64 k ∧ OkTo [w, l, c, p, t, s] k ∧ wr = w1) (fun i _ => 6 - (intOf i).toNat)
    case atStart => exact ⟨0, by omega, rfl, fun i hi => absurd hi (Nat.not_lt_zero _), rfl⟩
    case round =>
      obtain ⟨k, hk, rfl, hok, rfl⟩ := hrel
      by_cases hlt : k < 6
      · have c0 := six_cell hK1 hlt
        generalize hv : ati [w, l, c, p, t, s] k = v at *
        by_cases h0 : 0 ≤ v
        · by_cases h1 : v ≤ 131072
          · go_wp2
            go_roundw
            case rel => exact ⟨k + 1, by omega, by go_num, hok.next (by omega) (by omega), trivial⟩
            case measure => simp [intOf]; omega
          · go_wp2
            go_ret
            exact ⟨ret_int (by rw [HR.out, boundV_zero (k := k) (by rw [hv]; omega)]), hB1⟩
        · go_wp2
          go_ret
          exact ⟨ret_int (by rw [HR.out, boundV_zero (k := k) (by rw [hv]; omega)]), hB1⟩
      · obtain rfl : k = 6 := by omega
        have hr := inRange_of hok hg
        have hp := prodOk hr
        have hR2 : R = runV w l c t g + t + g + (progV l t s g + 2) * seekV w l c p := by rw [HR.out]; exact if_pos hr
        go_wp2_with fail
        refine (parts_any w l c p t s g _ hr).mono ?_; rintro e w2 ⟨rfl, rfl⟩
        unfold ProdOk at hp
        obtain ⟨⟨_, _⟩, ⟨_, _⟩, ⟨_, _⟩, ⟨_, _⟩, ⟨_, _⟩⟩ := hp
        have hrv : 0 ≤ runV w l c t g ∧ runV w l c t g ≤ 27021597764222976 := by unfold runV; omega
        unfold InRange at hr
        have hpv : 0 ≤ progV l t s g ∧ progV l t s g ≤ 137444720644 := by unfold progV; omega
        generalize runV w l c t g = rv at *
        generalize progV l t s g = pv at *
        generalize seekV w l c p = sv at *
        go_wp2
        go_ret
        exact ⟨ret_int hR2.symm, hB1⟩
  · go_enter Tryz.func8, Tryz.ntmps8
    have hb := Lib.hid (boundV_zero_g (w := w) (l := l) (c := c) (p := p) (t := t) (s := s) hg)
    by_cases h0 : 0 ≤ g
    · have h1 : 1048576 < g := by omega
      clear hg
      go_wp2
      go_ret
      exact ⟨ret_int (by rw [HR.out, hb.out]), Below.refl _ _⟩
    · clear hg
      go_wp2
      go_ret
      exact ⟨ret_int (by rw [HR.out, hb.out]), Below.refl _ _⟩
end
section
open Go Go.RowKit
theorem rounds_nil (A : Option Addr) (cap : Nat) (n : Int) (w : World) (hn : 1 ≤ n) :
    Calls Tryz.prog 26 #[.slice A 0 cap, .int .i64 n] w fun e w' => e = .returned (.int .i64 0) ∧ Below w.heap.size w w' := by
  have hmm := @run_makeMap Tryz.prog
  go_enter Tryz.func26, Tryz.ntmps26
  go_wp2
  go_step3
  go_wp2
  go_step3
  go_wp2
  go_rounds 1
  all_goals (try (apply_assumption; go_wp2))
  rw [Exit.noGoto_ret]
  go_ret
  exact ⟨rfl, (Below.refl _ _).alloc (Nat.le_refl _) _⟩
end
section
open Go Go.RowKit
/-- A number is in range. -/
abbrev Rg64 (g : Int) : Prop := -9223372036854775808 ≤ g ∧ g ≤ 9223372036854775807
def bndS (a b c d e f g : Int) : Option ((Int × Unit) × Unit) := if Rg64 g then some ((boundV a b c d e f g, ()), ()) else none
theorem co_seven {f : FuncId} (hf : Nat.blt f mBase = true) (h : ∀ (w l c p t s g : Int) (wl : World), Rg64 g → Calls Tryz.prog f #[.int .i64 w, .int .i64 l, .int .i64 c, .int .i64 p, .int .i64 t, .int .i64 s, .int .i64 g] wl fun e w' => e = .returned (.int .i64 (boundV w l c p t s g)) ∧ Below wl.heap.size wl w') :
    CO Tryz.prog (⟨f, [.sh sI_, .sh sI_, .sh sI_, .sh sI_, .sh sI_, .sh sI_, .sh sI_], [.sh sI_], fun x => bndS x.1 x.2.1 x.2.2.1 x.2.2.2.1 x.2.2.2.2.1 x.2.2.2.2.2.1 x.2.2.2.2.2.2.1⟩ : Con SR1) := fun x out hx B W vs F w hc => by
  obtain ⟨hb, hB, hs⟩ := hc
  obtain ⟨(a : Int), (b : Int), (c : Int), (d : Int), (e : Int), (f' : Int), (g : Int), _⟩ := x
  replace hx : bndS a b c d e f' g = some out := hx
  unfold bndS at hx
  split at hx
  · rename_i hg
    obtain rfl := Option.some.inj hx
    show CallsM Tryz.prog f _ w _
    rw [callsM_fn hf]
    replace hs : Sat B w (PreS SR1 [.sh sI_, .sh sI_, .sh sI_, .sh sI_, .sh sI_, .sh sI_, .sh sI_] (a, b, c, d, e, f', g, ()) vs ++ [F]) := hs
    rcases vs with _ | ⟨v1, vs⟩
    · exact sat_false hs
    obtain ⟨rfl, s1⟩ := sat_i (S := SR1) (k := .i64) (x := a) (L := PreS SR1 [.sh sI_, .sh sI_, .sh sI_, .sh sI_, .sh sI_, .sh sI_] (b, c, d, e, f', g, ()) vs ++ [F]) hs
    rcases vs with _ | ⟨v2, vs⟩
    · exact sat_false s1
    obtain ⟨rfl, s2⟩ := sat_i (S := SR1) (k := .i64) (x := b) (L := PreS SR1 [.sh sI_, .sh sI_, .sh sI_, .sh sI_, .sh sI_] (c, d, e, f', g, ()) vs ++ [F]) s1
    rcases vs with _ | ⟨v3, vs⟩
    · exact sat_false s2
    obtain ⟨rfl, s3⟩ := sat_i (S := SR1) (k := .i64) (x := c) (L := PreS SR1 [.sh sI_, .sh sI_, .sh sI_, .sh sI_] (d, e, f', g, ()) vs ++ [F]) s2
    rcases vs with _ | ⟨v4, vs⟩
    · exact sat_false s3
    obtain ⟨rfl, s4⟩ := sat_i (S := SR1) (k := .i64) (x := d) (L := PreS SR1 [.sh sI_, .sh sI_, .sh sI_] (e, f', g, ()) vs ++ [F]) s3
    rcases vs with _ | ⟨v5, vs⟩
    · exact sat_false s4
    obtain ⟨rfl, s5⟩ := sat_i (S := SR1) (k := .i64) (x := e) (L := PreS SR1 [.sh sI_, .sh sI_] (f', g, ()) vs ++ [F]) s4
    rcases vs with _ | ⟨v6, vs⟩
    · exact sat_false s5
    obtain ⟨rfl, s6⟩ := sat_i (S := SR1) (k := .i64) (x := f') (L := PreS SR1 [.sh sI_] (g, ()) vs ++ [F]) s5
    rcases vs with _ | ⟨v7, vs⟩
    · exact sat_false s6
    obtain ⟨rfl, s7⟩ := sat_i (S := SR1) (k := .i64) (x := g) (L := PreS SR1 [] () vs ++ [F]) s6
    rcases vs with _ | ⟨v8, vs⟩
    · exact (h a b c d e f' g w hg).mono fun e' w' ⟨he, hb'⟩ => ⟨[.int .i64 (boundV a b c d e f' g)], he, hb.trans (hb'.mono hB), Nat.le_trans hB hb'.size, sat_iI (S := SR1) (s7.below hb')⟩
    · exact sat_false s7
  · cases hx
def bndBound (a b c d e f g : Int) : Option ((Int × Unit) × Unit) := if Rg64 g then some ((boundV a b c d e f g, ()), ()) else none
noncomputable abbrev bndBound_k : Con SR1 := ⟨8, [.sh sI_, .sh sI_, .sh sI_, .sh sI_, .sh sI_, .sh sI_, .sh sI_], [.sh sI_], fun x => bndBound x.1 x.2.1 x.2.2.1 x.2.2.2.1 x.2.2.2.2.1 x.2.2.2.2.2.1 x.2.2.2.2.2.2.1⟩
theorem bndBound_ok : CO Tryz.prog bndBound_k := co_seven (by kernel_rfl) bound_any
def scRounds (l : List EntV) (n : Int) : Option ((Int × Unit) × Unit) := if l = [] then (if 1 ≤ n then some ((0, ()), ()) else none) else none
noncomputable abbrev scRounds_k : Con SR1 := ⟨26, [.sh (.ro 5), .sh sI_], [.sh sI_], fun x => scRounds x.1 x.2.1⟩
theorem scRounds_ok : CO Tryz.prog scRounds_k := fun x out hx B W vs F w hc => by
  obtain ⟨hb, hB, hs⟩ := hc
  obtain ⟨(l : List EntV), (n : Int), _⟩ := x
  replace hx : scRounds l n = some out := hx
  unfold scRounds at hx
  split at hx
  · rename_i hl
    subst hl
    split at hx
    · rename_i hn
      obtain rfl := Option.some.inj hx
      show CallsM Tryz.prog _ _ w _
      rw [callsM_fn (by kernel_rfl)]
      replace hs : Sat B w (PreS SR1 [.sh (.ro 5), .sh sI_] (([] : List EntV), n, ()) vs ++ [F]) := hs
      rcases vs with _ | ⟨v1, vs⟩
      · exact sat_false hs
      obtain ⟨A, cap, rfl, _⟩ := sat_ro (S := SR1) (c := 5) (xs := []) (L := PreS SR1 [.sh sI_] (n, ()) vs ++ [F]) hs
      have s1 : Sat B w (PreS SR1 [.sh sI_] (n, ()) vs ++ [F]) := hs.drop
      rcases vs with _ | ⟨v2, vs⟩
      · exact sat_false s1
      obtain ⟨rfl, s2⟩ := sat_i (S := SR1) (k := .i64) (x := n) (L := PreS SR1 [] () vs ++ [F]) s1
      rcases vs with _ | ⟨v3, vs⟩
      · exact (rounds_nil A cap n w hn).mono fun e' w' ⟨he, hb'⟩ => ⟨[.int .i64 0], he, hb.trans (hb'.mono hB), Nat.le_trans hB hb'.size, sat_iI (S := SR1) (s2.below hb')⟩
      · exact sat_false s2
    · cases hx
  · cases hx
end
section
open Go Go.RowKit
set_option maxRecDepth 100000
noncomputable def pAt (i : Int) (n : Int) (a : Int) (w : Int) : Option ((Int × Unit) × (Unit)) :=
 if i < 0 then
  some (((-1), ()), (()))
 else
 if n ≤ i then
  some (((-1), ()), (()))
 else
 some ((wi (a + (wi (i * w))), ()), (()))
noncomputable abbrev pAt_k : Con SR1 := ⟨69, [.sh sI_, .sh sI_, .sh sI_, .sh sI_], [.sh sI_], fun x => pAt x.1 x.2.1 x.2.2.1 x.2.2.2.1⟩
theorem pAt_ok : CO Tryz.prog pAt_k := co_fn mixed Tryz.func69 [] trivial [] trivial (fun _ => []) [] fun x => by kernel_rfl
noncomputable def pTask (l : LayV) (t : Int) (f : Int) : Option ((Int × Unit) × (Unit)) :=
 (pAt t l.tasks (wi (l.table + f)) 5).bind fun r1 =>
 some ((r1.1.1, ()), (()))
noncomputable abbrev pTask_k : Con SR1 := ⟨63, [.val 24, .sh sI_, .sh sI_], [.sh sI_], fun x => pTask x.1 x.2.1 x.2.2.1⟩
theorem pTask_ok : CO Tryz.prog pTask_k := co_fn mixed Tryz.func63 [pAt_k] ⟨pAt_ok, trivial⟩ [] trivial (fun _ => []) [] fun x => by kernel_rfl
noncomputable def pNext (l : LayV) : Option ((Int × Unit) × (Unit)) :=
 some ((0, ()), (()))
noncomputable abbrev pNext_k : Con SR1 := ⟨46, [.val 24], [.sh sI_], fun x => pNext x.1⟩
theorem pNext_ok : CO Tryz.prog pNext_k := co_fn mixed Tryz.func46 [] trivial [] trivial (fun _ => []) [] fun x => by kernel_rfl
noncomputable def pState (l : LayV) (t : Int) : Option ((Int × Unit) × (Unit)) :=
 (pTask l t 0).bind fun r1 =>
 some ((r1.1.1, ()), (()))
noncomputable abbrev pState_k : Con SR1 := ⟨47, [.val 24, .sh sI_], [.sh sI_], fun x => pState x.1 x.2.1⟩
theorem pState_ok : CO Tryz.prog pState_k := co_fn mixed Tryz.func47 [pTask_k] ⟨pTask_ok, trivial⟩ [] trivial (fun _ => []) [] fun x => by kernel_rfl
noncomputable def pCells (l : LayV) : Option ((Int × Unit) × (Unit)) :=
 some ((wi (l.table + (wi (5 * l.tasks))), ()), (()))
noncomputable abbrev pCells_k : Con SR1 := ⟨58, [.val 24], [.sh sI_], fun x => pCells x.1⟩
theorem pCells_ok : CO Tryz.prog pCells_k := co_fn mixed Tryz.func58 [] trivial [] trivial (fun _ => []) [] fun x => by kernel_rfl
noncomputable def clientClientOver (y0 : (ClientV MV)) : Option ((Bool × Unit) × ((ClientV MV) × Unit)) :=
 some ((decide (((y0.subs.length : Nat) : Int) ≤ y0.i), ()), (y0, ()))
noncomputable abbrev clientClientOver_k : Con SR1 := ⟨61, [.ref 30], [.sh .b], fun x => clientClientOver x.1⟩
theorem clientClientOver_ok : CO Tryz.prog clientClientOver_k := co_fn mixed Tryz.func61 [] trivial [] trivial (fun _ => []) [] fun x => by kernel_rfl
noncomputable def pAsleep (m : MV) : Option ((Bool × Unit) × (MV × Unit)) := none
noncomputable abbrev pAsleep_k : Con SR1 := ⟨60, [.mch], [.sh .b], fun x => none⟩
theorem pAsleep_ok : CO Tryz.prog pAsleep_k := fun x out h => by cases h
noncomputable def configClone (y0 : Cfg) : Option ((Cfg × Unit) × (Unit)) :=
 (cloneRows y0.progs).bind fun r1 =>
 (lpF (σ := Int × (Int × Int × Int × Int × Int × Int × Int × Int × Int × List (List Ins) × List Sub × Unit) × Unit) (β := Int × (Int × Int × Int × Int × Int × Int × Int × Int × Int × List (List Ins) × List Sub × Unit) × Unit) (fun self4 x2 =>
  if x2.1 < ((r1.1.1.length : Nat) : Int) then
   if 0 ≤ x2.1 ∧ x2.1 < ((x2.2.1.2.2.2.2.2.2.2.2.2.1.length : Nat) : Int) then
    (cloneIns (atK18 x2.2.1.2.2.2.2.2.2.2.2.2.1 x2.1)).bind fun r5 =>
    if 0 ≤ x2.1 ∧ x2.1 < ((x2.2.1.2.2.2.2.2.2.2.2.2.1.length : Nat) : Int) then
     self4 (wi (x2.1 + 1), (x2.2.1.1, x2.2.1.2.1, x2.2.1.2.2.1, x2.2.1.2.2.2.1, x2.2.1.2.2.2.2.1, x2.2.1.2.2.2.2.2.1, x2.2.1.2.2.2.2.2.2.1, x2.2.1.2.2.2.2.2.2.2.1, x2.2.1.2.2.2.2.2.2.2.2.1, x2.2.1.2.2.2.2.2.2.2.2.2.1.set x2.1.toNat r5.1.1, x2.2.1.2.2.2.2.2.2.2.2.2.2.1, ()), ())
    else none
   else none
  else
  some (x2.1, (x2.2.1.1, x2.2.1.2.1, x2.2.1.2.2.1, x2.2.1.2.2.2.1, x2.2.1.2.2.2.2.1, x2.2.1.2.2.2.2.2.1, x2.2.1.2.2.2.2.2.2.1, x2.2.1.2.2.2.2.2.2.2.1, x2.2.1.2.2.2.2.2.2.2.2.1, x2.2.1.2.2.2.2.2.2.2.2.2.1, x2.2.1.2.2.2.2.2.2.2.2.2.2.1, ()), ())
 ) 18446744073709551616 (0, (y0.workers, y0.levels, y0.classes, y0.tasks, y0.deque, y0.heap, y0.batch, y0.age, y0.patience, r1.1.1, y0.subs, ()), ())).bind fun z3 =>
 (cloneSubs z3.2.1.2.2.2.2.2.2.2.2.2.2.1).bind fun r6 =>
 some (((⟨z3.2.1.1, z3.2.1.2.1, z3.2.1.2.2.1, z3.2.1.2.2.2.1, z3.2.1.2.2.2.2.1, z3.2.1.2.2.2.2.2.1, z3.2.1.2.2.2.2.2.2.1, z3.2.1.2.2.2.2.2.2.2.1, z3.2.1.2.2.2.2.2.2.2.2.1, z3.2.1.2.2.2.2.2.2.2.2.2.1, r6.1.1⟩ : Cfg), ()), (()))
noncomputable abbrev configClone_k : Con SR1 := ⟨59, [.val 13], [.val 13], fun x => configClone x.1⟩
theorem configClone_ok : CO Tryz.prog configClone_k := co_fn mixed Tryz.func59 [cloneRows_k, cloneIns_k, cloneSubs_k] ⟨cloneRows_ok, cloneIns_ok, cloneSubs_ok, trivial⟩ [] trivial (fun _ => []) [(3, .loop [.rg 11 sI_, .cs 11 [sI_, sI_, sI_, sI_, sI_, sI_, sI_, sI_, sI_, (.row 18), (.ro 4)]] 18446744073709551616 0)] fun x => by kernel_rfl
noncomputable def configIn (y0 : Int) (y1 : Int) (y2 : Int) : Option ((Bool × Unit) × (Unit)) :=
 if y1 ≤ y0 then
  some ((decide (y0 ≤ y2), ()), (()))
 else
 some ((false, ()), (()))
noncomputable abbrev configIn_k : Con SR1 := ⟨54, [.sh sI_, .sh sI_, .sh sI_], [.sh .b], fun x => configIn x.1 x.2.1 x.2.2.1⟩
theorem configIn_ok : CO Tryz.prog configIn_k := co_fn mixed Tryz.func54 [] trivial [] trivial (fun _ => []) [] fun x => by kernel_rfl
noncomputable def configNumbers (y0 : Cfg) : Option ((Bool × Unit) × (Unit)) :=
 (configIn y0.workers 1 16).bind fun r1 =>
 if r1.1.1 = true then
  (configIn y0.levels 1 64).bind fun r2 =>
  if r2.1.1 = true then
   (configIn y0.classes 1 (if y0.levels < 8 then y0.levels else 8)).bind fun r3 =>
   if r3.1.1 = true then
    (configIn y0.tasks 1 256).bind fun r4 =>
    if r4.1.1 = true then
     (configIn y0.deque 1 64).bind fun r5 =>
     if r5.1.1 = true then
      (configIn y0.heap 1 64).bind fun r6 =>
      if r6.1.1 = true then
       (configIn y0.batch 1 y0.deque).bind fun r7 =>
       if r7.1.1 = true then
        (configIn y0.age 0 65536).bind fun r8 =>
        if r8.1.1 = true then
         (configIn y0.patience 1 65536).bind fun r9 =>
         some ((r9.1.1, ()), (()))
        else
        some ((false, ()), (()))
       else
       some ((false, ()), (()))
      else
      some ((false, ()), (()))
     else
     some ((false, ()), (()))
    else
    some ((false, ()), (()))
   else
   some ((false, ()), (()))
  else
  some ((false, ()), (()))
 else
 some ((false, ()), (()))
noncomputable abbrev configNumbers_k : Con SR1 := ⟨29, [.val 13], [.sh .b], fun x => configNumbers x.1⟩
theorem configNumbers_ok : CO Tryz.prog configNumbers_k := co_fn mixed Tryz.func29 [configIn_k] ⟨configIn_ok, trivial⟩ [] trivial (fun _ => []) [] fun x => by kernel_rfl
noncomputable def configValid (y0 : Cfg) (y1 : Ins) : Option ((Bool × Unit) × (Unit)) :=
 if y1.op = 0 then
  (configIn y1.a 1 64).bind fun r1 =>
  if r1.1.1 = true then
   some ((decide (y1.b = 0), ()), (()))
  else
  some ((false, ()), (()))
 else
 if y1.op = 1 then
  (configIn y1.a 0 (wi (((y0.progs.length : Nat) : Int) - 1))).bind fun r2 =>
  if r2.1.1 = true then
   (configIn y1.b 0 (wi (y0.levels - 1))).bind fun r3 =>
   some ((r3.1.1, ()), (()))
  else
  some ((false, ()), (()))
 else
 if y1.op = 2 then
  (configIn y1.a 0 31).bind fun r4 =>
  if r4.1.1 = true then
   some ((decide (y1.b = 0), ()), (()))
  else
  some ((false, ()), (()))
 else
 some ((false, ()), (()))
noncomputable abbrev configValid_k : Con SR1 := ⟨55, [.val 13, .val 3], [.sh .b], fun x => configValid x.1 x.2.1⟩
theorem configValid_ok : CO Tryz.prog configValid_k := co_fn mixed Tryz.func55 [configIn_k] ⟨configIn_ok, trivial⟩ [] trivial (fun _ => []) [] fun x => by kernel_rfl
noncomputable def configPrograms (y0 : Cfg) : Option ((Int × Unit) × (Unit)) :=
 (configIn ((y0.progs.length : Nat) : Int) 1 32).bind fun r1 =>
 if (!r1.1.1) = true then
  some ((2, ()), (()))
 else
 (lpF (σ := Int × Unit) (β := (Int × Unit) ⊕ ((Int × Unit) × (Unit))) (fun self4 x2 =>
  if x2.1 < ((y0.progs.length : Nat) : Int) then
   if 0 ≤ x2.1 ∧ x2.1 < ((y0.progs.length : Nat) : Int) then
    if 32 < (((atL [] y0.progs x2.1).length : Nat) : Int) then
     Option.map Sum.inr (
      some ((2, ()), (()))
     )
    else
    (lpF (σ := Int × Unit) (β := (Int × Unit) ⊕ ((Int × Unit) ⊕ ((Int × Unit) × (Unit)))) (fun self7 x5 =>
     if x5.1 < (((atL [] y0.progs x2.1).length : Nat) : Int) then
      if 0 ≤ x5.1 ∧ x5.1 < (((atL [] y0.progs x2.1).length : Nat) : Int) then
       (configValid y0 (atK3 (atL [] y0.progs x2.1) x5.1)).bind fun r8 =>
       if (!r8.1.1) = true then
        Option.map Sum.inr (
         Option.map Sum.inr (
          some ((1, ()), (()))
         )
        )
       else
       self7 (wi (x5.1 + 1), ())
      else none
     else
     some (Sum.inl (x5.1, ()))
    ) 18446744073709551616 (0, ())).bind fun z6 => match z6 with
    | .inr o9 => some o9
    | .inl z6 =>
    self4 (wi (x2.1 + 1), ())
   else none
  else
  some (Sum.inl (x2.1, ()))
 ) 18446744073709551616 (0, ())).bind fun z3 => match z3 with
 | .inr o10 => some o10
 | .inl z3 =>
 some ((0, ()), (()))
noncomputable abbrev configPrograms_k : Con SR1 := ⟨30, [.val 13], [.sh sI_], fun x => configPrograms x.1⟩
theorem configPrograms_ok : CO Tryz.prog configPrograms_k := co_fn mixed Tryz.func30 [configIn_k, configValid_k] ⟨configIn_ok, configValid_ok, trivial⟩ [] trivial (fun _ => []) [(4, .loopR [.rg 15 sI_] 18446744073709551616 0), (9, .loopR [.rg 24 sI_] 18446744073709551616 2)] fun x => by kernel_rfl
noncomputable def configSubmissions (y0 : Cfg) : Option ((Int × Unit) × (Unit)) :=
 if 64 < ((y0.subs.length : Nat) : Int) then
  some ((2, ()), (()))
 else
 (lpF (σ := Int × Unit) (β := (Int × Unit) ⊕ ((Int × Unit) × (Unit))) (fun self3 x1 =>
  if x1.1 < ((y0.subs.length : Nat) : Int) then
   if 0 ≤ x1.1 ∧ x1.1 < ((y0.subs.length : Nat) : Int) then
    (configIn ((atK4 y0.subs x1.1).prog) 0 (wi (((y0.progs.length : Nat) : Int) - 1))).bind fun r4 =>
    if (!r4.1.1) = true then
     Option.map Sum.inr (
      some ((3, ()), (()))
     )
    else
    (configIn ((atK4 y0.subs x1.1).level) 0 (wi (y0.levels - 1))).bind fun r5 =>
    if (!r5.1.1) = true then
     Option.map Sum.inr (
      some ((1, ()), (()))
     )
    else
    (configIn ((atK4 y0.subs x1.1).deadline) 0 16777215).bind fun r6 =>
    if (!r6.1.1) = true then
     Option.map Sum.inr (
      some ((1, ()), (()))
     )
    else
    self3 (wi (x1.1 + 1), ())
   else none
  else
  some (Sum.inl (x1.1, ()))
 ) 18446744073709551616 (0, ())).bind fun z2 => match z2 with
 | .inr o7 => some o7
 | .inl z2 =>
 some ((0, ()), (()))
noncomputable abbrev configSubmissions_k : Con SR1 := ⟨31, [.val 13], [.sh sI_], fun x => configSubmissions x.1⟩
theorem configSubmissions_ok : CO Tryz.prog configSubmissions_k := co_fn mixed Tryz.func31 [configIn_k] ⟨configIn_ok, trivial⟩ [] trivial (fun _ => []) [(4, .loopR [.rg 12 sI_] 18446744073709551616 0)] fun x => by kernel_rfl
noncomputable def configCheck (y0 : Cfg) : Option ((Int × Unit) × (Unit)) :=
 (configNumbers y0).bind fun r1 =>
 if (!r1.1.1) = true then
  some ((1, ()), (()))
 else
 (configPrograms y0).bind fun r2 =>
 if r2.1.1 ≠ 0 then
  some ((r2.1.1, ()), (()))
 else
 (configSubmissions y0).bind fun r3 =>
 some ((r3.1.1, ()), (()))
noncomputable abbrev configCheck_k : Con SR1 := ⟨19, [.val 13], [.sh sI_], fun x => configCheck x.1⟩
theorem configCheck_ok : CO Tryz.prog configCheck_k := co_fn mixed Tryz.func19 [configNumbers_k, configPrograms_k, configSubmissions_k] ⟨configNumbers_ok, configPrograms_ok, configSubmissions_ok, trivial⟩ [] trivial (fun _ => []) [] fun x => by kernel_rfl
noncomputable def layoutNew (y0 : Cfg) : Option ((LayV × Int × Unit) × (Unit)) :=
 (configCheck y0).bind fun r1 =>
 if r1.1.1 ≠ 0 then
  some (((⟨0, 0, 0, 0, 0, 0, 0, 0, 0, 0, 0⟩ : LayV), r1.1.1, ()), (()))
 else
 some ((({ y0 with sleepers := wi (4 + y0.heap), epochs := wi ((wi (4 + y0.heap)) + y0.classes), bitmaps := wi ((wi ((wi (4 + y0.heap)) + y0.classes)) + y0.workers), queues := wi ((wi ((wi ((wi (4 + y0.heap)) + y0.classes)) + y0.workers)) + y0.workers), table := wi ((wi ((wi ((wi ((wi (4 + y0.heap)) + y0.classes)) + y0.workers)) + y0.workers)) + (wi ((wi (y0.workers * y0.levels)) * (wi (2 + y0.deque))))) } : LayV), 0, ()), (()))
noncomputable abbrev layoutNew_k : Con SR1 := ⟨56, [.val 13], [.val 24, .sh sI_], fun x => layoutNew x.1⟩
theorem layoutNew_ok : CO Tryz.prog layoutNew_k := co_fn mixed Tryz.func56 [configCheck_k] ⟨configCheck_ok, trivial⟩ [] trivial (fun _ => []) [] fun x => by kernel_rfl
noncomputable def memoryNew (y0 : Int) : Option ((MemV × Unit) × (Unit)) :=
 if (if 131072 < (if y0 < 0 then 0 else y0) then 131072 else (if y0 < 0 then 0 else y0)) = (if 131072 < (if y0 < 0 then 0 else y0) then 131072 else (if y0 < 0 then 0 else y0)) then
  if 0 ≤ (if 131072 < (if y0 < 0 then 0 else y0) then 131072 else (if y0 < 0 then 0 else y0)) ∧ (if 131072 < (if y0 < 0 then 0 else y0) then 131072 else (if y0 < 0 then 0 else y0)) ≤ 1099511627776 then
   some (((⟨List.replicate ((if 131072 < (if y0 < 0 then 0 else y0) then 131072 else (if y0 < 0 then 0 else y0)) : Int).toNat (0 : Int), ⟨0, 0, 0, 0⟩, 0⟩ : MemV), ()), (()))
  else none
 else none
noncomputable abbrev memoryNew_k : Con SR1 := ⟨64, [.sh sI_], [.sh (.own 9)], fun x => memoryNew x.1⟩
theorem memoryNew_ok : CO Tryz.prog memoryNew_k := co_fn mixed Tryz.func64 [] trivial [] trivial (fun _ => []) [] fun x => by kernel_rfl
noncomputable def clockNew  : Option ((ClkV × Unit) × (Unit)) :=
 some (((⟨0, 0⟩ : ClkV), ()), (()))
noncomputable abbrev clockNew_k : Con SR1 := ⟨65, [], [.sh (.own 25)], fun x => clockNew ⟩
theorem clockNew_ok : CO Tryz.prog clockNew_k := co_fn mixed Tryz.func65 [] trivial [] trivial (fun _ => []) [] fun x => by kernel_rfl
noncomputable def machineBare (y0 : Int) : Option ((EnvP × Unit) × (Unit)) :=
 (memoryNew y0).bind fun r1 =>
 (clockNew).bind fun r2 =>
 some (((⟨⟨0, 0, 0, 0, 0, 0, 0, 0, 0, [], []⟩, ⟨0, 0, 0, 0, 0, 0, 0, 0, 0, 0, 0⟩, r1.1.1, r2.1.1, [], []⟩ : EnvP), ()), (()))
noncomputable abbrev machineBare_k : Con SR1 := ⟨57, [.sh sI_], [.sh (.own 27)], fun x => machineBare x.1⟩
theorem machineBare_ok : CO Tryz.prog machineBare_k := co_fn mixed Tryz.func57 [memoryNew_k, clockNew_k] ⟨memoryNew_ok, clockNew_ok, trivial⟩ [] trivial (fun _ => []) [] fun x => by kernel_rfl
noncomputable def clientNew (y0 : Cfg) : Option (((ClientV MV) × Unit) × (Unit)) :=
 (configClone y0).bind fun r1 =>
 if y0.workers = y0.workers then
  some (((⟨r1.1.1.subs, y0.workers, 0, 1, MV.nil, true, 0, false⟩ : (ClientV MV)), ()), (()))
 else none
noncomputable abbrev clientNew_k : Con SR1 := ⟨38, [.val 13], [.sh (.own 30)], fun x => clientNew x.1⟩
theorem clientNew_ok : CO Tryz.prog clientNew_k := co_fn mixed Tryz.func38 [configClone_k] ⟨configClone_ok, trivial⟩ [] trivial (fun _ => []) [] fun x => by kernel_rfl
noncomputable def workerNew (y0 : Int) : Option (((WorkerV MV) × Unit) × (Unit)) :=
 some (((⟨y0, 0, 0, MV.nil, 0, 0, 0⟩ : (WorkerV MV)), ()), (()))
noncomputable abbrev workerNew_k : Con SR1 := ⟨39, [.sh sI_], [.sh (.own 31)], fun x => workerNew x.1⟩
theorem workerNew_ok : CO Tryz.prog workerNew_k := co_fn mixed Tryz.func39 [] trivial [] trivial (fun _ => []) [] fun x => by kernel_rfl
end
end Go.Proofs.YtnfblhckpmofcaaGreat
