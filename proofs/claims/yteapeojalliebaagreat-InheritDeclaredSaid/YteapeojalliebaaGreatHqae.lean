/- Evaluation by itself: slices that grow. No program occurs here. Evaluation by itself: maps from numbers: made, read, written. No program occurs here. Evaluation by itself, 7: a region that draws its order: what is read may be read first, if it is set aside for the rest of the region. No program occurs here. Evaluation by itself: slices that grow by a list; empty ones. No program occurs here. -/
import Derived.Test.YteapeojalliebaaGreatHqad
import Derived.Test.YteapeojalliebaaGreatHqac
set_option linter.all false
namespace Go.Proofs.YteapeojalliebaaGreat
section
open Go Go.RowKit
section
variable (K : KT)
def azd (c : Nat) : Nat → KT.H K → List V → Option (List (K.T c) × KT.H K)
  | 0, H, [] => some ([], H)
  | 0, _, _ :: _ => none
  | m + 1, H, vs => match atR K (asm K) H (K.vw c (K.df c)) ((vs.take (K.sz c)).map .v) with
    | some (l, H1) => match K.bk c l with
      | some x => match azd c m H1 (vs.drop (K.sz c)) with
        | some (xs, H2) => some (x :: xs, H2)
        | none => none
      | none => none
    | none => none
end
section
variable {K : KT} {ρ : Env} {B : Nat} {w : World}
theorem asa {c : Nat} : ∀ {m : Nat} {H H' : KT.H K} {vs : List V} {ys : List (K.T c)}, azd K c m H vs = some (ys, H') → ∀ {X : List aad}, Sat B w (dH K ρ H ++ X) →
    ∃ vss : List (List Value), aag ρ vs = vss.flatten ∧ (∀ v ∈ vss, v.length = K.sz c) ∧ vss.length = m ∧ ys.length = m ∧ Sat B w (acg K (pcS K) c ys vss ++ (dH K ρ H' ++ X))
  | 0, H, H', [], ys, h, X, s => by cases h; exact ⟨[], rfl, fun _ h => (by cases h), rfl, rfl, s⟩
  | 0, _, _, _ :: _, _, h, _, _ => by cases h
  | m + 1, H, H', vs, ys, h, X, s => by
    unfold azd at h
    split at h
    · rename_i l H1 hl
      split at h
      · rename_i x hx
        split at h
        · rename_i xs H2 hm
          cases h
          have s1 := aix apU hl (ρ := ρ) (X := X) (vs := aag ρ (vs.take (K.sz c))) (s.imp fun k hk => aih hk)
          have s2 : Sat B w (dH K ρ H1 ++ (fsS (pcS K) l (aag ρ (vs.take (K.sz c))) ++ X)) := s1.perm (acV _ _ _)
          obtain ⟨vss, e, hl2, hl3, hl4, s3⟩ := asa hm s2
          refine ⟨aag ρ (vs.take (K.sz c)) :: vss, ?_, fun v hv => ?_, by simp [hl3], by simp [hl4], ?_⟩
          · rw [List.flatten_cons, ← e, ← apG, List.take_append_drop]
          · rcases List.mem_cons.1 hv with e1 | e1
            · subst e1
              obtain ⟨a1, a2⟩ := aos hl
              rw [List.length_map, K.sz_ok] at a2
              rw [aaR, List.length_map, ← a2]
            · exact hl2 v e1
          · simp only [acg, List.append_assoc]
            rw [K.bk_ok _ _ _ hx]
            refine s3.perm ?_
            rw [← List.append_assoc (dH K ρ H')]
            refine List.Perm.trans ?_ ((acV (acg K (pcS K) c xs vss) (fsS (pcS K) l (aag ρ (vs.take (K.sz c)))) (dH K ρ H' ++ X)))
            refine List.Perm.append_left _ ?_
            rw [List.append_assoc]
            exact acV _ _ _
        · cases h
      · cases h
    · cases h
theorem aob {pc : Fl K.T K.M → Value → aad} {c : Nat} : ∀ {xs ys : List (K.T c)} {vs us : List (List Value)}, xs.length = vs.length → acg K pc c (xs ++ ys) (vs ++ us) = acg K pc c xs vs ++ acg K pc c ys us
  | [], _, [], _, _ => rfl
  | x :: xs, _, v :: vs, _, h => by simp only [List.cons_append, acg, aob (xs := xs) (vs := vs) (by simpa using h), List.append_assoc]
  | [], _, _ :: _, _, h => by cases h
  | _ :: _, _, [], _, h => by cases h
end
def aEc : Option Value → Nat → Bool
  | some z, n => Nat.beq z.cells.size n
  | none, _ => false
theorem aqM {o : Option Value} {n : Nat} (h : aEc o n = true) : ∃ z, o = some z ∧ z.cells.size = n := by
  cases o with
  | none => cases h
  | some z => exact ⟨z, rfl, Nat.eq_of_beq_eq_true h⟩
section
variable (K : KT)
def axu (H : KT.H K) (E : TypeId) : V → Option ((c : Nat) × List (K.T c) × KT.H K)
  | .sl id => match get H id with
    | some (.row c xs) => some ⟨c, xs, del H id⟩
    | _ => none
  | .c (.slice none 0 0) => match K.tk E with
    | some c => some ⟨c, [], H⟩
    | none => none
  | _ => none
def aGR (P : Program) (R : aa1) (n : Nat) (Z H : KT.H K) (T : TypeId) (m : Nat) (parts : List (Nat × Operand)) : Option (Nat × KT.H K × V) :=
  match aF1 K P R H T m parts with
  | some (sz, l) => match abG K R n Z H && Nat.ble (ahZ l) n with
    | true => some (n + 1, (n, .arr m sz l) :: H, .sl n)
    | false => none
  | none => none
def aGY (P : Program) (R : aa1) (n : Nat) (Z H : KT.H K) (T T' : TypeId) (x y : V) : Option (List Gd × Nat × KT.H K × V) :=
  match Nat.beq T T' with
  | true => match ahp P T with
    | some E => match P.info? E with
      | some inf => match axu K H E x with
        | some ⟨c, xs, H1⟩ => match y with
          | .sl id2 => match get H1 id2 with
            | some (.arr m sz vs) => match Nat.beq sz (K.sz c) && Nat.beq inf.size sz && aEc inf.zero sz && Nat.blt 0 m && Nat.blt 0 sz && Nat.ble inf.bytes 140 && vs.all (scV (del H1 id2)) && abG K R n Z H with
              | true => match azd K c m (del H1 id2) vs with
                | some (ys, H2) => match Nat.ble (afl H2) n with
                  | true => some ([⟨(((xs.length + m : Nat)) : Int) < 1000000000000, inferInstance⟩], n + 1, (n, .row c (xs ++ ys)) :: H2, .sl n)
                  | false => none
                | none => none
              | false => none
            | _ => none
          | _ => none
        | none => none
      | none => none
    | none => none
  | false => none
end
section
variable {K : KT} {P : Program} {nt n B : Nat} {W : World} {R : aa1} {Z H : KT.H K} {nx : Nat → KT.H K → V → Prop}
theorem aB6 {o : Oper} {T : TypeId} {m : Nat} {parts : Array (Nat × Operand)} {n' : Nat} {H' : KT.H K} {v : V} (ho : o.op = .buildSlice T m parts) (h : aGR K P R n Z H T m parts.toList = some (n', H', v)) (hn : nx n' H' v) : aea K P nt B W o R n Z H nx := fun F ρ a w s => by
  obtain ⟨d, op, ty, ps, af, g⟩ := o
  simp only at ho
  subst ho
  unfold aGR at h
  split at h
  · rename_i sz l hb
    split at h
    · rename_i hB
      cases h
      simp only [Bool.and_eq_true, abG] at hB
      obtain ⟨⟨⟨b1, b2⟩, b3⟩, b4⟩ := hB
      have b2' := Nat.le_of_ble_eq_true b2
      obtain ⟨E, hl, hm, hr⟩ := ayu s.sat s.regs hb
      have : (execOp a.eval ⟨d, .buildSlice T m parts, ty, ps, af, g⟩).run P w = .ok (.value (.slice (some ⟨w.heap.size, 0, none⟩) m m)) (w.alloc (.cells (aag ρ l).toArray E)) := by
        simp only [execOp]
        rw [aaa hr]; rfl
      rw [this]
      let ρ' := (ρ.setP n (w.heap.size, 0)).setS n ⟨some ⟨w.heap.size, 0, none⟩, m, m⟩
      have ha : aaw n ρ ρ' := (ahR ρ n (w.heap.size, 0)).trans (ab5 _ n _) (Nat.le_refl _)
      refine ⟨⟨ρ', n + 1, _, .sl n⟩, by simp [aat, ρ', Env.setS], ⟨ha, Nat.le_succ _, (abE ha R (Nat.le_of_ble_eq_true b1)).symm, hn⟩, aeo s.below s.lo _, by simpa using Nat.le_succ_of_le s.lo, ?_⟩
      have s1 := s.sat.fresh (cs := (aag ρ l).toArray) (T := E) s.lo
      refine s1.imp fun h hk => ?_
      obtain ⟨k1, k2, a', e', hp, hq⟩ := hk
      refine ⟨k1, k2, a', e', ⟨⟨?_, hl, hm⟩, ?_⟩, ?_⟩
      · simp [ρ', Env.setS, Env.setP]
      · rw [← adO ha l (Nat.le_of_ble_eq_true b4)]
        simpa [ρ', Env.setS, Env.setP] using hp
      · rw [dS, abP ha H (Nat.le_of_ble_eq_true b3), acI b2' ha] at hq
        exact hq
    · cases h
  · cases h
theorem aq0 {E : TypeId} {x : V} {c : Nat} {xs : List (K.T c)} {H1 : KT.H K} (h : axu K H E x = some ⟨c, xs, H1⟩) {ρ : Env} {w : World} {X : List aad} (s : Sat B w (dH K ρ H ++ X)) :
    ∃ A cap, aat ρ x = .slice A xs.length cap ∧ afl H1 ≤ afl H ∧ ∃ vss : List (List Value), xs.length = vss.length ∧ (∀ vs ∈ vss, vs.length = K.sz c) ∧ Sat B w (ae4 A xs.length cap (K.sz c) vss.flatten :: (acg K (pcS K) c xs vss ++ (dH K ρ H1 ++ X))) := by
  unfold axu at h
  split at h
  · rename_i id
    split at h
    · rename_i c' xs' hg
      cases h
      obtain ⟨h1, vss, h2, h3, s2⟩ := aky s hg
      exact ⟨_, _, by rw [aat, h1], afk, vss, h2, h3, s2⟩
    · cases h
  · split at h
    · cases h
      exact ⟨none, 0, rfl, Nat.le_refl _, [], rfl, fun _ h => (by cases h), s.imp (arQ _)⟩
    · cases h
  · cases h
theorem aCb {o : Oper} {T T' : TypeId} {x y : Operand} {u v : V} {gs : List Gd} {n' : Nat} {H' : KT.H K} {r : V} (ho : o.op = .call ⟨.builtin .append, #[x, y], #[T, T']⟩) (hx : evO R x = some u) (hy : evO R y = some v) (h : aGY K P R n Z H T T' u v = some (gs, n', H', r)) (hg : ∀ g ∈ gs, g.P) (hn : nx n' H' r) :
    aea K P nt B W o R n Z H nx := fun F ρ a w s => by
  obtain ⟨d, op, ty, ps, af, g⟩ := o
  simp only at ho
  subst ho
  have ex := (aaD (ρ := ρ) hx).eval s.regs
  have ey := (aaD (ρ := ρ) hy).eval s.regs
  unfold aGY at h
  split at h
  · rename_i hT
    obtain rfl := Nat.eq_of_beq_eq_true hT
    split at h
    · rename_i E hE
      split at h
      · rename_i inf hi
        split at h
        · rename_i c xs H1 hr
          split at h
          · rename_i id2
            split at h
            · rename_i m sz vs hg2
              split at h
              · rename_i hB
                split at h
                · rename_i ys H2 hel
                  split at h
                  · rename_i hB2
                    cases h
                    simp only [Bool.and_eq_true, abG] at hB
                    obtain ⟨⟨⟨⟨⟨⟨⟨b0, b1⟩, b2⟩, b3⟩, b4⟩, b5⟩, b6⟩, ⟨⟨b7, b8⟩, b9⟩⟩ := hB
                    obtain rfl := Nat.eq_of_beq_eq_true b0
                    have b1' := Nat.eq_of_beq_eq_true b1
                    obtain ⟨z, hz, hzsz⟩ := aqM b2
                    have b3' : 0 < m := Nat.le_of_ble_eq_true b3
                    have b4' : 0 < K.sz c := Nat.le_of_ble_eq_true b4
                    have b5' := Nat.le_of_ble_eq_true b5
                    have b8' := Nat.le_of_ble_eq_true b8
                    have b9' := Nat.le_of_ble_eq_true b9
                    have hB2' := Nat.le_of_ble_eq_true hB2
                    have hguard : (((xs.length + m : Nat)) : Int) < 1000000000000 := hg _ (List.mem_singleton.2 rfl)
                    obtain ⟨A, cap, hdx, htop, vss, h2, h3, s2⟩ := aq0 hr s.sat
                    -- the literal slice
                    have s3 : Sat B w (dH K ρ H1 ++ (ae4 A xs.length cap (K.sz c) vss.flatten :: (acg K (pcS K) c xs vss ++ tl K Z F ρ))) := s2.perm (by
                      refine List.Perm.symm ?_
                      refine (List.perm_middle (l₁ := dH K ρ H1)).trans (List.Perm.cons _ ?_)
                      exact acV _ _ _)
                    obtain ⟨⟨a1, a2, a3⟩, s4⟩ := awa s3 hg2
                    have s5 : Sat B w (dH K ρ (del H1 id2) ++ (pts (ρ.p id2).1 (ρ.p id2).2 (aag ρ vs) :: ae4 A xs.length cap (K.sz c) vss.flatten :: (acg K (pcS K) c xs vss ++ tl K Z F ρ))) := s4.perm (List.perm_middle (l₁ := dH K ρ (del H1 id2))).symm
                    obtain ⟨vs2, e1, e2, e3, e4, s6⟩ := asa hel s5
                    have hsc : (aag ρ vs).all ado = true := by
                      rw [aaR, List.all_map, List.all_eq_true]
                      intro q hq
                      exact axl (List.all_eq_true.1 b6 q hq) s5
                    have s7 : Sat B w (ae4 A xs.length cap (K.sz c) vss.flatten :: pts (ρ.p id2).1 (ρ.p id2).2 (aag ρ vs) :: (acg K (pcS K) c ys vs2 ++ (acg K (pcS K) c xs vss ++ (dH K ρ H2 ++ tl K Z F ρ)))) := by
                      refine s6.perm ?_
                      refine (List.Perm.append_left _ (List.perm_middle (l₁ := dH K ρ H2))).trans ?_
                      refine (List.perm_middle (l₁ := acg K (pcS K) c ys vs2)).trans ?_
                      refine List.Perm.trans (List.Perm.cons _ ?_) (List.Perm.swap ..)
                      refine (List.Perm.append_left _ (List.perm_middle (l₁ := dH K ρ H2))).trans ?_
                      refine (List.perm_middle (l₁ := acg K (pcS K) c ys vs2)).trans (List.Perm.cons _ ?_)
                      exact List.Perm.append_left _ (acV _ _ _)
                    have hby : (xs.length + m) * inf.bytes ≤ 140737488355328 := by
                      have h1 : xs.length + m ≤ 1000000000000 := by omega
                      have h2 : (xs.length + m) * inf.bytes ≤ 1000000000000 * 140 := Nat.mul_le_mul h1 b5'
                      omega
                    obtain ⟨A', cap', w', hrun, c1, c2, c3⟩ := aqI (ty := ty) (c := m) (W := W) (ab0 hE) ⟨inf, hi, hz, b1', rfl⟩ hzsz b4' s7 s.below s.lo (by rw [aaR]; simpa using a2) hsc b3' (by unfold maxLen; omega) hby
                    have : (execOp a.eval ⟨d, .call ⟨.builtin .append, #[x, y], #[T, T]⟩, ty, ps, af, g⟩).run P w = .ok (.value (.slice A' (xs.length + m) cap')) w' := by
                      simp only [execOp, resolve, List.map_toArray, List.map_cons, List.map_nil, ex, ey, hdx, aat, a1]
                      simp only [invoke, builtin]
                      simp [hrun]
                    rw [this]
                    have ha := ab5 ρ n ⟨A', xs.length + m, cap'⟩
                    refine ⟨⟨ρ.setS n ⟨A', xs.length + m, cap'⟩, n + 1, _, .sl n⟩, by simp [aat, Env.setS], ⟨ha, Nat.le_succ _, (abE ha R (Nat.le_of_ble_eq_true b7)).symm, hn⟩, c1, c2, ?_⟩
                    refine c3.imp fun k hk => ?_
                    obtain ⟨k1, k2, a', e', g1, g2⟩ := hk
                    have g3 := Ent.drop k2 g2
                    have g4 : abH (acg K (pcS K) c (xs ++ ys) (vss ++ vs2) ++ (dH K ρ H2 ++ tl K Z F ρ)) k2 := by
                      rw [aob h2, List.append_assoc]
                      exact abF (acV _ _ _) g3
                    have g5 : abH ((ae4 A' (xs ++ ys).length cap' (K.sz c) (vss ++ vs2).flatten :: acg K (pcS K) c (xs ++ ys) (vss ++ vs2)) ++ (dH K ρ H2 ++ tl K Z F ρ)) k := by
                      refine ⟨k1, k2, a', e', ?_, g4⟩
                      rw [List.length_append, e4, List.flatten_append, ← e1]; exact g1
                    obtain ⟨j1, j2, a'', e'', q1, q2⟩ := aam.1 g5
                    refine ⟨j1, j2, a'', e'', ⟨?_, ade.2 ⟨vss ++ vs2, ?_⟩⟩, ?_⟩
                    · simp [Env.setS, e4]
                    · simpa [Env.setS] using q1
                    · rw [abP ha H2 hB2', acI b8' ha] at q2; exact q2
                  · cases h
                · cases h
              · cases h
            · cases h
          · cases h
        · cases h
      · cases h
    · cases h
  · cases h
end
def aD1 (P : Program) (T : TypeId) : Option TypeId := match P.underlying T with
  | some (.map kt et) => match P.underlying kt with
    | some (.int .i64) => some et
    | _ => none
  | _ => none
theorem aul {P : Program} {T et : TypeId} (h : aD1 P T = some et) : ∃ kt, P.underlying T = some (.map kt et) ∧ P.underlying kt = some (.int .i64) := by
  unfold aD1 at h
  split at h
  · rename_i kt e h1
    split at h
    · rename_i h2; cases h; exact ⟨kt, h1, h2⟩
    · cases h
  · cases h
section
variable {T : Nat → Type} {M : Type}
def aFB : Fl T M → V
  | .i k x => .i k x
  | .b x => .b x
  | _ => .c undef
theorem arK {ρ : Env} : ∀ {l : List (Fl T M)}, aje l = true → aag ρ (l.map aFB) = l.map flV
  | [], _ => rfl
  | .i k x :: l, h => by show aat ρ (.i k x) :: aag ρ (l.map aFB) = _; rw [arK (l := l) h]; rfl
  | .b x :: l, h => by show aat ρ (.b x) :: aag ρ (l.map aFB) = _; rw [arK (l := l) h]; rfl
  | .c _ :: _, h => by cases h
  | .own _ _ :: _, h => by cases h
  | .row _ _ :: _, h => by cases h
  | .ro _ _ :: _, h => by cases h
  | .rr _ _ :: _, h => by cases h
  | .mach _ :: _, h => by cases h
  | .o :: _, h => by cases h
  | .mp .. :: _, h => by cases h
def eqZ : List (Fl T M) → List Value → Bool
  | [], [] => true
  | .i k x :: l, .int k' y :: vs => aqY k k' && decide (x = y) && eqZ l vs
  | .b x :: l, .bool y :: vs => (x == y) && eqZ l vs
  | _, _ => false
theorem avU : ∀ {l : List (Fl T M)} {vs : List Value}, eqZ l vs = true → l.map flV = vs
  | [], [], _ => rfl
  | .i k x :: l, .int k' y :: vs, h => by
    simp only [eqZ, Bool.and_eq_true, decide_eq_true_eq] at h
    obtain ⟨⟨h1, h2⟩, h3⟩ := h
    rw [List.map_cons, avU h3, agZ h1, h2]; rfl
  | .b x :: l, .bool y :: vs, h => by
    simp only [eqZ, Bool.and_eq_true, beq_iff_eq] at h
    rw [List.map_cons, avU h.2, h.1]; rfl
def plF : List (Fl T M) → List V → Option (List (Fl T M))
  | [], [] => some []
  | .i k _ :: l, v :: vs => match aj6 v with
    | some (k', x, _) => match aqY k' k with
      | true => match plF l vs with
        | some r => some (.i k x :: r)
        | none => none
      | false => none
    | none => none
  | .b _ :: l, v :: vs => match ar5 v with
    | some x => match plF l vs with
      | some r => some (.b x :: r)
      | none => none
    | none => none
  | _, _ => none
theorem avo {ρ : Env} : ∀ {l : List (Fl T M)} {vs : List V} {r : List (Fl T M)}, plF l vs = some r → r.map flV = aag ρ vs
  | [], [], r, h => by cases h; rfl
  | [], _ :: _, r, h => by cases h
  | .i k x :: l, [], r, h => by cases h
  | .b x :: l, [], r, h => by cases h
  | .i k x :: l, v :: vs, r, h => by
    unfold plF at h
    split at h
    · rename_i k' y _ hi
      split at h
      · rename_i hk
        split at h
        · rename_i r' hr
          cases h
          obtain rfl := agZ hk
          show Value.int k' y :: r'.map flV = aat ρ v :: aag ρ vs
          rw [avo hr, afs hi]
        · cases h
      · cases h
    · cases h
  | .b x :: l, v :: vs, r, h => by
    unfold plF at h
    split at h
    · rename_i y hi
      split at h
      · rename_i r' hr
        cases h
        show Value.bool y :: r'.map flV = aat ρ v :: aag ρ vs
        rw [avo hr, ajK hi]
      · cases h
    · cases h
  | .c _ :: _, _, _, h => by simp [plF] at h
  | .own _ _ :: _, _, _, h => by simp [plF] at h
  | .row _ _ :: _, _, _, h => by simp [plF] at h
  | .ro _ _ :: _, _, _, h => by simp [plF] at h
  | .rr _ _ :: _, _, _, h => by simp [plF] at h
  | .mach _ :: _, _, _, h => by simp [plF] at h
  | .o :: _, _, _, h => by simp [plF] at h
  | .mp .. :: _, _, _, h => by simp [plF] at h
end
section
variable (K : KT)
def aF6 (c : Nat) (ag : Bool) (x : K.T c) : V := match ag with
  | true => .agg ((K.vw c x).map aFB)
  | false => ((K.vw c x).map aFB).headD (.c undef)
def aGg (P : Program) (et : TypeId) (c : Nat) (ag : Bool) : Bool := match auU P et with
  | some (.agg cs) => ag && eqZ (K.vw c (K.df c)) cs.toList
  | some z => !ag && eqZ (K.vw c (K.df c)) [z]
  | none => false
def aG0 (c : Nat) (ag : Bool) (v : V) : Option (K.T c) := match ag with
  | true => match v with
    | .agg l => match plF (K.vw c (K.df c)) l with
      | some r => K.bk c r
      | none => none
    | _ => none
  | false => match plF (K.vw c (K.df c)) [v] with
    | some r => K.bk c r
    | none => none
def agB (P : Program) (et : TypeId) : Bool := match aeV P et with
  | some none => false
  | _ => true
def aGM (P : Program) (R : aa1) (n : Nat) (Z H : KT.H K) (op : Op) : Option (Nat × KT.H K × V) := match op with
  | .lookup T x k ok => match evO R x with
    | some (.mc id) => match get H id with
      | some (.mp c ag m) => match evO R k with
        | some kv => match aj6 kv with
          | some (.i64, j, _) => match aD1 P T with
            | some et => match K.pl c && aGg K P et c ag && (ag || Nat.beq (K.sz c) 1) with
              | true => match ok with
                | true => some (n, H, .tup [aF6 K c ag ((m j).getD (K.df c)), .b (m j).isSome])
                | false => some (n, H, aF6 K c ag ((m j).getD (K.df c)))
              | false => none
            | none => none
          | _ => none
        | none => none
      | _ => none
    | _ => none
  | .mapUpdate T x k v => match evO R x with
    | some (.mc id) => match get H id with
      | some (.mp c ag m) => match evO R k with
        | some kv => match aj6 kv with
          | some (.i64, j, _) => match aD1 P T with
            | some _ => match evO R v with
              | some u => match aG0 K c ag u with
                | some y => some (n, (id, .mp c ag (ap5 m j y)) :: del H id, .c undef)
                | none => none
              | none => none
            | none => none
          | _ => none
        | none => none
      | _ => none
    | _ => none
  | .makeMap T none => match aD1 P T with
    | some et => match K.tk et with
      | some c => match abG K R n Z H with
        | true => some (n + 1, (n, .mp c (agB P et) mp0) :: H, .mc n)
        | false => none
      | none => none
    | none => none
  | .call c => match c.callee with
    | .builtin .delete => match c.args.toList with
      | [x, k] => match c.argTypes.toList with
        | [T, _] => match evO R x with
          | some (.mc id) => match get H id with
            | some (.mp c ag m) => match evO R k with
              | some kv => match aj6 kv with
                | some (.i64, j, _) => match aD1 P T with
                  | some _ => some (n, (id, .mp c ag (aww m j)) :: del H id, .tup [])
                  | none => none
                | _ => none
              | none => none
            | _ => none
          | _ => none
        | _ => none
      | _ => none
    | _ => none
  | _ => none
end
section
variable {K : KT} {P : Program} {nt n B : Nat} {W : World} {R : aa1} {Z H : KT.H K} {nx : Nat → KT.H K → V → Prop}
theorem aBQ {et : TypeId} {c : Nat} {ag : Bool} {w : World} (h : aGg K P et c ag = true) : (zeroValue et).run P w = .ok (atN K c ag (K.df c)) w := by
  unfold aGg at h
  split at h
  · rename_i cs hz
    simp only [Bool.and_eq_true] at h
    have e := avU h.2
    rw [h.1]
    unfold atN
    simp only [e]
    exact ala hz
  · rename_i z hna hz
    simp only [Bool.and_eq_true, Bool.not_eq_true'] at h
    have e := avU h.2
    rw [h.1]
    unfold atN
    simp only [e]
    exact ala hz
  · cases h
theorem avV {ρ : Env} {c : Nat} {ag : Bool} {x : K.T c} (hp : K.pl c = true) (hs : (ag || Nat.beq (K.sz c) 1) = true) : aat ρ (aF6 K c ag x) = atN K c ag x := by
  have e := arK (ρ := ρ) (K.pl_ok c hp x)
  unfold aF6 atN
  cases ag with
  | true => simp only [aat, e]
  | false =>
    have hl := K.sz_ok c x
    have h1 : K.sz c = 1 := by simpa using hs
    simp only
    cases hv : K.vw c x with
    | nil => rw [hv, h1] at hl; cases hl
    | cons f l =>
      rw [hv] at e
      simp only [List.map_cons, aag, List.cons.injEq] at e
      simp only [List.map_cons, List.headD_cons]
      exact e.1
theorem aAV {ρ : Env} {c : Nat} {ag : Bool} {v : V} {y : K.T c} (h : aG0 K c ag v = some y) : aat ρ v = atN K c ag y := by
  unfold aG0 at h
  unfold atN
  split at h
  · split at h
    · split at h
      · rename_i l r hr
        simp only [aat, K.bk_ok _ _ _ h, avo (ρ := ρ) hr]
      · cases h
    · cases h
  · split at h
    · rename_i r hr
      simp only [K.bk_ok _ _ _ h, avo (ρ := ρ) hr, aag, List.headD_cons]
    · cases h
theorem aya {ρ : Env} {id c : Nat} {ag : Bool} {m : Int → Option (K.T c)} {w : World} {X : List aad} (hg : get H id = some (.mp c ag m)) (s : Sat B w (dH K ρ H ++ X)) :
    ∃ b es clock, ρ.v id = .map (some b) ∧ w.heap[b]? = some (.map es clock) ∧ apX (atN K c ag) m es.toList ∧ Sat B w (awV b (.map es clock) :: (dH K ρ (del H id) ++ X)) := by
  have s1 := s.imp (aaN (ρ := ρ) hg)
  obtain ⟨h, Hh, k1, k2, a, e, hA, hL⟩ := s1
  have hA' : pcS K (.mp c ag m) (ρ.v id) k1 := hA
  rw [aaE] at hA'
  obtain ⟨b, e1, es, clock, hr, ho⟩ := hA'
  have s2 : Sat B w (awV b (.map es clock) :: (dH K ρ (del H id) ++ X)) := ⟨h, Hh, k1, k2, a, e, ho, hL⟩
  exact ⟨b, es, clock, e1, s2.obj.2.1, hr, s2⟩
theorem ary {ρ : Env} {id c b : Nat} {ag : Bool} {m : Int → Option (K.T c)} {es : Array MapEntry} {clock : Nat} {w : World} {X : List aad} {G : KT.H K} (he : ρ.v id = .map (some b)) (hr : apX (atN K c ag) m es.toList) (s : Sat B w (awV b (.map es clock) :: (dH K ρ G ++ X))) :
    Sat B w (dH K ρ ((id, .mp c ag m) :: G) ++ X) := by
  obtain ⟨h, Hh, k1, k2, a, e, ho, hL⟩ := s
  exact ⟨h, Hh, k1, k2, a, e, aaE.2 ⟨b, he, es, clock, hr, ho⟩, hL⟩
theorem aDw {o : Oper} {n' : Nat} {H' : KT.H K} {v : V} (h : aGM K P R n Z H o.op = some (n', H', v)) (hn : nx n' H' v) : aea K P nt B W o R n Z H nx := fun F ρ a w s => by
  obtain ⟨d, op, ty, ps, af, g⟩ := o
  simp only at h
  unfold aGM at h
  split at h
  · rename_i T x k ok
    split at h
    · rename_i id hx
      split at h
      · rename_i c ag m hg
        split at h
        · rename_i kv hk
          split at h
          · rename_i j _ hi
            split at h
            · rename_i et hT
              split at h
              · rename_i hB
                simp only [Bool.and_eq_true] at hB
                obtain ⟨⟨b1, b2⟩, b3⟩ := hB
                have ex := (aaD (ρ := ρ) hx).eval s.regs
                have ek := (aaD (ρ := ρ) hk).eval s.regs
                obtain ⟨kt, t1, t2⟩ := aul hT
                obtain ⟨b, es, clock, e1, e2, hr, _⟩ := aya hg s.sat
                have hl := ayb (k := j) (ok := ok) t1 t2 (aBQ (w := w) b2) e2 hr.1
                rw [hr.2.2 j] at hl
                have hv : ((m j).map (atN K c ag)).getD (atN K c ag (K.df c)) = atN K c ag ((m j).getD (K.df c)) := by cases m j <;> rfl
                have hs : ((m j).map (atN K c ag)).isSome = (m j).isSome := by cases m j <;> rfl
                rw [hv, hs] at hl
                have fin : ∀ {vv : V}, aat ρ vv = (if ok = true then .tuple #[atN K c ag ((m j).getD (K.df c)), .bool (m j).isSome] else atN K c ag ((m j).getD (K.df c))) → nx n H vv →
                    ahY P (fun (x : Nx K) w' => (aaw n ρ x.ρ ∧ n ≤ x.n ∧ dR x.ρ R = dR ρ R ∧ nx x.n x.H x.v) ∧ Cls B W (dS K x.ρ Z x.H F) w') (fun x => aat x.ρ x.v) ((execOp a.eval ⟨d, .lookup T x k ok, ty, ps, af, g⟩).run P w) := fun {vv} h1 h2 => by
                  have : (execOp a.eval ⟨d, .lookup T x k ok, ty, ps, af, g⟩).run P w = .ok (.value (aat ρ vv)) w := by
                    simp only [execOp, ex, ek, aat, e1, afs hi]
                    rw [aaa hl, h1]; rfl
                  rw [this]
                  exact ⟨⟨ρ, n, H, vv⟩, rfl, ⟨aaw.refl _ _, Nat.le_refl _, rfl, h2⟩, s.cls⟩
                split at h
                · cases h
                  exact fin (by simp [aat, aag, avV b1 b3]) hn
                · cases h
                  exact fin (by simp [avV b1 b3]) hn
              · cases h
            · cases h
          · cases h
        · cases h
      · cases h
    · cases h
  · rename_i T x k v0
    split at h
    · rename_i id hx
      split at h
      · rename_i c ag m hg
        split at h
        · rename_i kv hk
          split at h
          · rename_i j _ hi
            split at h
            · rename_i et hT
              split at h
              · rename_i u hu
                split at h
                · rename_i y hy
                  cases h
                  have ex := (aaD (ρ := ρ) hx).eval s.regs
                  have ek := (aaD (ρ := ρ) hk).eval s.regs
                  have eu := (aaD (ρ := ρ) hu).eval s.regs
                  obtain ⟨kt, t1, t2⟩ := aul hT
                  obtain ⟨b, es, clock, e1, e2, hr, s2⟩ := aya hg s.sat
                  obtain ⟨es', clock', hp, hr'⟩ := az6 (k := j) (x := y) t1 t2 e2 hr
                  have : (execOp a.eval ⟨d, .mapUpdate T x k v0, ty, ps, af, g⟩).run P w = .ok .skip (w.putObj b (.map es' clock')) := by
                    simp only [execOp, ex, ek, eu, aat, e1, afs hi, aAV hy]
                    rw [aaa hp]; rfl
                  rw [this]
                  obtain ⟨c1, c2, c3⟩ := Cls.putObj (o' := .map es' clock') ⟨s.below, s.lo, s2⟩ rfl
                  exact ⟨⟨ρ, n, _, .c undef⟩, rfl, ⟨aaw.refl _ _, Nat.le_refl _, rfl, hn⟩, c1, c2, ary e1 hr' c3⟩
                · cases h
              · cases h
            · cases h
          · cases h
        · cases h
      · cases h
    · cases h
  · rename_i T
    split at h
    · rename_i et hT
      split at h
      · rename_i c hc
        split at h
        · rename_i hF
          cases h
          simp only [abG, Bool.and_eq_true] at hF
          obtain ⟨⟨b1, b0⟩, b2⟩ := hF
          have b1' := Nat.le_of_ble_eq_true b1
          have b0' := Nat.le_of_ble_eq_true b0
          have b2' := Nat.le_of_ble_eq_true b2
          have : (execOp a.eval ⟨d, .makeMap T none, ty, ps, af, g⟩).run P w = .ok (.value (.map (some w.heap.size))) (w.alloc (.map #[] 0)) := by
            simp only [execOp, Option.map_none, Instr.makeMap]
            simp [newObj, Sem.run, World.alloc_eq]
          rw [this]
          have ha := akg ρ n (.map (some w.heap.size))
          obtain ⟨c1, c2, c3⟩ := Cls.newObj (o := .map #[] 0) s.cls rfl
          refine ⟨⟨ρ.setV n (.map (some w.heap.size)), n + 1, _, .mc n⟩, by simp [aat, Env.setV], ⟨ha, Nat.le_succ _, (abE ha R b1').symm, hn⟩, c1, c2, ?_⟩
          have c4 : Sat B (w.alloc (.map #[] 0)) (awV w.heap.size (.map #[] 0) :: (dH K (ρ.setV n (.map (some w.heap.size))) H ++ tl K Z F (ρ.setV n (.map (some w.heap.size))))) := by
            rw [← abP ha H b2', ← acI b0' ha]; exact c3
          exact ary (by simp [Env.setV]) ⟨fun e he => (by simp at he), by simp, fun k => rfl⟩ c4
        · cases h
      · cases h
    · cases h
  · rename_i cc
    obtain ⟨cal, args, tys⟩ := cc
    simp only at h
    split at h
    · split at h
      · rename_i x k ha
        split at h
        · rename_i T T' ht
          split at h
          · rename_i id hx
            split at h
            · rename_i c ag m hg
              split at h
              · rename_i kv hk
                split at h
                · rename_i j _ hi
                  split at h
                  · rename_i et hT
                    cases h
                    obtain rfl : args = #[x, k] := by rw [← Array.toArray_toList (xs := args), ha]
                    obtain rfl : tys = #[T, T'] := by rw [← Array.toArray_toList (xs := tys), ht]
                    have ex := (aaD (ρ := ρ) hx).eval s.regs
                    have ek := (aaD (ρ := ρ) hk).eval s.regs
                    obtain ⟨kt, t1, t2⟩ := aul hT
                    obtain ⟨b, es, clock, e1, e2, hr, s2⟩ := aya hg s.sat
                    obtain ⟨es', clock', hp, hr'⟩ := aA0 (k := j) (ty := ty) (u := T') t1 t2 e2 hr
                    have : (execOp a.eval ⟨d, .call ⟨.builtin .delete, #[x, k], #[T, T']⟩, ty, ps, af, g⟩).run P w = .ok (.value (.tuple #[])) (w.putObj b (.map es' clock')) := by
                      simp only [execOp, resolve, List.map_toArray, List.map_cons, List.map_nil, ex, ek, aat, e1, afs hi]
                      simp only [invoke, builtin]
                      simp [hp]
                    rw [this]
                    obtain ⟨c1, c2, c3⟩ := Cls.putObj (o' := .map es' clock') ⟨s.below, s.lo, s2⟩ rfl
                    exact ⟨⟨ρ, n, _, .tup []⟩, rfl, ⟨aaw.refl _ _, Nat.le_refl _, rfl, hn⟩, c1, c2, ary e1 hr' c3⟩
                  · cases h
                · cases h
              · cases h
            · cases h
          · cases h
        · cases h
      · cases h
    · cases h
  · cases h
end
section
variable {P : Program} {ops : Array Oper} {Q : Exit → Act → World → Prop} {Φ Ψ : World → Prop}
def ahl (P : Program) (ops : Array Oper) (Q : Exit → Act → World → Prop) (Ob : Nat → World → World → Prop) : Nat → Array Bool → Act → World → Prop
  | 0, listed, a, w => Region.ready .any ops listed = [] ∧ NP Q .normal a w
  | f + 1, listed, a, w => (Region.ready .any ops listed = [] → NP Q .normal a w) ∧
    ∀ i ∈ Region.ready .any ops listed, wpOpIn (rf none) 0 P ops (NP Q) i (fun a' w' => Ob i w w' ∧ ahl P ops Q Ob f (listed.setIfInBounds i true) a' w') a w
variable {Ob Ob' : Nat → World → World → Prop}
theorem atD (h : ∀ j w w', Ob j w w' → Ob' j w w') : ∀ (f : Nat) (listed : Array Bool) (a : Act) (w : World), ahl P ops Q Ob f listed a w → ahl P ops Q Ob' f listed a w
  | 0, _, _, _, hh => hh
  | f + 1, _, _, w, hh => ⟨hh.1, fun i hi => wpOpIn_mono (fun a' w' ⟨h1, h2⟩ => ⟨h i w w' h1, atD h f _ a' w' h2⟩) (hh.2 i hi)⟩
theorem awb : ∀ (f : Nat) (listed : Array Bool) (a : Act) (w : World), ahl P ops Q Ob f listed a w → wpAnyIn (rf none) 0 P .any ops (NP Q) f listed a w
  | 0, _, _, _, hh => hh
  | f + 1, _, _, _, hh => ⟨hh.1, fun i hi => wpOpIn_mono (fun a' w' ⟨_, h2⟩ => awb f _ a' w' h2) (hh.2 i hi)⟩
def ajR (ops : Array Oper) (listed : Array Bool) : Prop := ∀ k ok, ops[k]? = some ok → listed.getD k false = true → ∀ e ∈ ok.after, Region.binds .any e = true → listed.getD e.on false = true
theorem ajR.set {listed : Array Bool} {i : Nat} (h : ajR ops listed) (hi : i ∈ Region.ready .any ops listed) : ajR ops (listed.setIfInBounds i true) := fun k ok hk hl e he hb => by
  by_cases hik : i = k
  · subst hik
    obtain ⟨_, o, ho, hall⟩ := mem_ready.1 hi
    rw [ho] at hk
    cases hk
    exact getD_set_true (hall e he hb)
  · rw [getD_set_ne false hik] at hl
    exact getD_set_true (h k ok hk hl e he hb)
theorem auG : ajR ops (Array.replicate ops.size false) := fun k ok hk hl => by
  rw [Array.getD_eq_getD_getElem?, Array.getElem?_replicate] at hl
  split at hl <;> cases hl
inductive Desc (ops : Array Oper) (i : Nat) : Nat → Prop
  | self : Desc ops i i
  | step {k : Nat} {ok : Oper} {e : Edge} (h : ops[k]? = some ok) (he : e ∈ ok.after) (hb : Region.binds .any e = true) (hd : Desc ops i e.on) : Desc ops i k
theorem Desc.listed {listed : Array Bool} {i k : Nat} (hd : Desc ops i k) (hc : ajR ops listed) (hk : listed.getD k false = true) : listed.getD i false = true := by
  induction hd with
  | self => exact hk
  | step h he hb _ ih => exact ih (hc _ _ h hk _ he hb)
theorem Desc.ready {listed : Array Bool} {i k : Nat} (hd : Desc ops i k) (hne : k ≠ i) (hc : ajR ops listed) (hk : k ∈ Region.ready .any ops listed) : listed.getD i false = true := by
  cases hd with
  | self => exact absurd rfl hne
  | step h he hb hd =>
    obtain ⟨_, o, ho, hall⟩ := mem_ready.1 hk
    rw [ho] at h
    cases h
    exact hd.listed hc (hall _ he hb)
def adD (P : Program) (ops : Array Oper) (Φ : World → Prop) (o : Oper) (v : Value) (a : Act) : Prop :=
  ((Region.wanted o (yielded ops a.tmps) = true ∧ ∀ w, Φ w → (execOp a.eval o).run P w = .ok (.value v) w) ∨ (Region.wanted o (yielded ops a.tmps) = false ∧ v = undef)) ∧ ∀ w, o.about P w a.eval = none
theorem adD.of_same {o : Oper} {v : Value} {a a' : Act} (hy : adD P ops Φ o v a) (he : execOp a'.eval o = execOp a.eval o)
    (hw : Region.wanted o (yielded ops a'.tmps) = Region.wanted o (yielded ops a.tmps)) (hb : ∀ w, o.about P w a'.eval = o.about P w a.eval) : adD P ops Φ o v a' := by
  unfold adD at *
  rw [he, hw]
  exact ⟨hy.1, fun w => by rw [hb w]; exact hy.2 w⟩
theorem adD.wpOpIn {i : Nat} {o : Oper} {v : Value} {a : Act} (hi : ops[i]? = some o) (hy : adD P ops Φ o v a) {K : Act → World → Prop} {w : World} (hw : Φ w) (h : K (a.put o.dst v) w) : wpOpIn (rf none) 0 P ops (NP Q) i K a w := by
  unfold Go.wpOpIn
  simp only [hi]
  have hab : ∀ f, o.about P w a.eval = some f → (rf none).fn f := fun f hf => by rw [hy.2 w] at hf; cases hf
  rcases hy.1 with ⟨h1, hv⟩ | ⟨h1, rfl⟩
  · simp only [h1, if_true, Oper.wpIn, rf, Oper.semAt_none, hv w hw, Oper.uponIn]; exact ⟨hab, h⟩
  · simp only [h1, Bool.false_eq_true, if_false]; exact ⟨hab, h⟩
theorem aGn {j : Nat} {oi oj : Oper} {v : Value} (hj : ops[j]? = some oj) (hap : oi.apart ops oj = true) (hsi : ∀ cs b, oi.op ≠ .select cs b) (hsj : ∀ cs b, oj.op ≠ .select cs b) {K : Act → World → Prop} {a : Act} {w : World}
    (hy : adD P ops Φ oi v a) (h : wpOpIn (rf none) 0 P ops (NP Q) j K (a.put oi.dst v) w) : wpOpIn (rf none) 0 P ops (NP Q) j (fun a' w' => adD P ops Φ oi v a' ∧ K (a'.put oi.dst v) w') a w := by
  obtain ⟨h1, h2, h3⟩ := Oper.apart_spec hap
  have keep : ∀ (a : Act), adD P ops Φ oi v a → ∀ u, adD P ops Φ oi v (a.put oj.dst u) := fun a hy u =>
    hy.of_same (execOp_put oi hsi a oj.dst u h3) (wanted_put oi a oj.dst u h3) (fun w => about_put oi w a oj.dst u h3)
  unfold Go.wpOpIn at *
  simp only [hj] at *
  rw [wanted_put oj a oi.dst v h1, about_put oj w a oi.dst v h1] at h
  by_cases hw : Region.wanted oj (yielded ops a.tmps) = true
  · rw [if_pos hw] at h ⊢
    unfold Oper.wpIn at *
    rw [about_put oj w a oi.dst v h1] at h
    refine ⟨h.1, ?_⟩
    replace h := h.2
    rw [show (rf none).round = none from rfl, Oper.semAt_none] at h ⊢
    rw [execOp_put oj hsj a oi.dst v h1] at h
    generalize (execOp a.eval oj).run P w = res at *
    cases res with
    | halt x w' => cases x <;> exact h
    | ok x w' =>
      cases x <;> simp only [Oper.uponIn] at h ⊢
      case value u => rw [Act.put_comm a v u h2] at h; exact ⟨keep a hy u, h⟩
      case skip => rw [Act.put_comm a v undef h2] at h; exact ⟨keep a hy _, h⟩
      case defer d =>
        have hd : adD P ops Φ oi v { a with defers := d :: a.defers } := hy.of_same rfl rfl (fun _ => rfl)
        rw [Act.put_defers, Act.put_comm _ v undef h2] at h
        exact ⟨keep _ hd _, h⟩
      case enter f args =>
        refine ⟨h.1, CallsIn.mono h.2 fun e w'' he => ?_⟩
        cases e with
        | panicked c => exact he
        | outgrown => exact he
        | returned u => simp only at he ⊢; rw [Act.put_comm a v u h2] at he; exact ⟨keep a hy u, he⟩
      case row row args => exact ⟨h.1, RowsIn.mono h.2 fun u w'' he => by rw [Act.put_comm a v u h2] at he; exact ⟨keep a hy u, he⟩⟩
      case round l f tmps assign body =>
        refine ⟨h.1, RoundIn.mono h.2 fun e w'' he => ?_⟩
        cases e with
        | panicked c => exact he
        | outgrown => exact he
        | returned u => simp only at he ⊢; rw [Act.put_comm a v u h2] at he; exact ⟨keep a hy u, he⟩
  · rw [if_neg hw] at h ⊢
    refine ⟨h.1, keep a hy _, ?_⟩
    have := h.2
    rwa [Act.put_comm a v undef h2] at this
theorem aqJ {i : Nat} {oi : Oper} {v : Value} (hi : ops[i]? = some oi) (hrefl : ∀ w, Ob i w w) (hsel : ∀ (j : Nat) (o : Oper) cs b, ops[j]? = some o → o.op ≠ .select cs b)
    (hstep : ∀ (listed : Array Bool) (j : Nat), ajR ops listed → listed.getD i true = false → j ∈ Region.ready .any ops listed → j ≠ i → ∀ w w', Ob j w w' → Φ w → Φ w') :
    ∀ (f : Nat) (listed : Array Bool) (a : Act) (w : World), ajR ops listed →
      (∀ j oj, ops[j]? = some oj → j ≠ i → listed.getD j true = false → (∀ e ∈ oj.after, Region.binds .any e = true → e.on ≠ i) → oi.apart ops oj = true) →
      i ∈ Region.ready .any ops listed → adD P ops Φ oi v a → Φ w →
      ahl P ops Q Ob f (listed.setIfInBounds i true) (a.put oi.dst v) w → ahl P ops Q Ob (f + 1) listed a w := by
  intro f
  induction f with
  | zero =>
    intro listed a w _ _ hr hy hw H
    refine ⟨fun h => (by rw [h] at hr; cases hr), fun j hj => ?_⟩
    by_cases hji : j = i
    · subst hji; exact hy.wpOpIn hi hw ⟨hrefl w, H⟩
    · have := ready_mono hj hji
      rw [H.1] at this
      cases this
  | succ f ih =>
    intro listed a w hcl hfree hr hy hw H
    refine ⟨fun h => (by rw [h] at hr; cases hr), fun j hj => ?_⟩
    by_cases hji : j = i
    · subst hji; exact hy.wpOpIn hi hw ⟨hrefl w, H⟩
    · have h1 := H.2 j (ready_mono hj hji)
      obtain ⟨hjun, oj, hoj, hall⟩ := mem_ready.1 hj
      have hun := (mem_ready.1 hr).1
      have hnot : ∀ e ∈ oj.after, Region.binds .any e = true → e.on ≠ i := fun e he hb heq => by
        have h1 := hall e he hb
        rw [heq, getD_both hun] at h1
        cases h1
      have h2 := aGn hoj (hfree j oj hoj hji hjun hnot) (fun cs b => hsel i oi cs b hi) (fun cs b => hsel j oj cs b hoj) hy h1
      have hfree' : ∀ k ok, ops[k]? = some ok → k ≠ i → (listed.setIfInBounds j true).getD k true = false →
          (∀ e ∈ ok.after, Region.binds .any e = true → e.on ≠ i) → oi.apart ops ok = true := fun k ok hk hki hun hno => by
        refine hfree k ok hk hki ?_ hno
        by_cases hjk : j = k
        · subst hjk; exact hjun
        · rw [getD_set_ne true hjk] at hun; exact hun
      refine wpOpIn_mono (fun a' w' h3 => ?_) h2
      obtain ⟨hy', hw', h4⟩ := h3
      refine ⟨hw', ih (listed.setIfInBounds j true) a' w' (hcl.set hj) hfree' (ready_mono hr (Ne.symm hji)) hy' (hstep listed j hcl hun hj hji w w' hw' hw) ?_⟩
      rw [Array.setIfInBounds_comm _ _ hji]
      exact h4
theorem ajN {i : Nat} {oi : Oper} {v : Value} {f : Nat} {listed : Array Bool} {a : Act} {w : World} (hi : ops[i]? = some oi) (hrefl : ∀ w, Ob i w w) (hB : atU ops listed i = true) (hcl : ajR ops listed) (hy : adD P ops (fun _ => True) oi v a)
    (h : ahl P ops Q Ob f (listed.setIfInBounds i true) (a.put oi.dst v) w) : ahl P ops Q Ob (f + 1) listed a w := by
  simp only [atU, Bool.and_eq_true] at hB
  exact aqJ hi hrefl (Region.noSelect_spec hB.1.1) (fun _ _ _ _ _ _ _ _ _ h => h) f listed a w hcl (Region.free_spec hi hB.1.2) (by simpa using hB.2) hy trivial h
theorem aze {i : Nat} {oi : Oper} {v : Value} {f : Nat} {listed : Array Bool} {a : Act} {w : World} (hi : ops[i]? = some oi) (hrefl : ∀ w, Ob i w w) (hB : atU ops listed i = true) (hcl : ajR ops listed) (hOb : ∀ j w w', Ob j w w' → ¬ Desc ops i j → Φ w → Φ w') (hy : adD P ops Φ oi v a) (hw : Φ w)
    (h : ahl P ops Q Ob f (listed.setIfInBounds i true) (a.put oi.dst v) w) : ahl P ops Q Ob (f + 1) listed a w := by
  simp only [atU, Bool.and_eq_true] at hB
  refine aqJ hi hrefl (Region.noSelect_spec hB.1.1) (fun l j hcl hun hj hji w w' ho => hOb j w w' ho fun hd => ?_) f listed a w hcl (Region.free_spec hi hB.1.2) (by simpa using hB.2) hy hw h
  have := hd.ready hji hcl hj
  rw [getD_both hun] at this
  cases this
def inN : List Nat → Nat → Bool
  | [], _ => false
  | x :: l, n => Nat.beq x n || inN l n
end
section
variable (K : KT)
def aCe (H : KT.H K) : V → Option ((c : Nat) × List (K.T c))
  | .sl id => match get H id with
    | some (.ro c ys) => some ⟨c, ys⟩
    | some (.row c ys) => some ⟨c, ys⟩
    | _ => none
  | _ => none
def aGX (P : Program) (R : aa1) (n : Nat) (Z H : KT.H K) (T T' : TypeId) (x y : V) : Option (List Gd × Nat × KT.H K × V) :=
  match Nat.beq T T' with
  | true => match ahp P T with
    | some E => match P.info? E with
      | some inf => match axu K H E x with
        | some ⟨c, xs, H1⟩ => match aCe K (H1 ++ Z) y with
          | some ⟨c', ys'⟩ => match am5 c' c ys' with
            | some ys => match K.pl c && Nat.beq inf.size (K.sz c) && aEc inf.zero (K.sz c) && Nat.blt 0 (K.sz c) && Nat.ble inf.bytes 140 && abG K R n Z H && Nat.ble (afl H1) n with
              | true => some ([⟨(((xs.length + ys.length : Nat)) : Int) < 1000000000000, inferInstance⟩], n + 1, (n, .row c (xs ++ ys)) :: H1, .sl n)
              | false => none
            | none => none
          | none => none
        | none => none
      | none => none
    | none => none
  | false => none
def aGT (P : Program) (R : aa1) (n : Nat) (Z H : KT.H K) (T : TypeId) (m : Nat) (parts : List (Nat × Operand)) : Option (Nat × KT.H K × V) :=
  match m with
  | 0 => match parts with
    | [] => match ahp P T with
      | some E => match P.info? E with
        | some _ => match K.tk E with
          | some c => match abG K R n Z H with
            | true => some (n + 1, (n, .row c []) :: H, .sl n)
            | false => none
          | none => none
        | none => none
      | none => none
    | _ :: _ => none
  | _ + 1 => none
def elK (T E : TypeId) : Nat → Option Nat
  | 0 => K.tk E
  | 1 => K.tk E
  | _ + 2 => match K.tk (T + 1000000) with
    | some c => some c
    | none => K.tk E
def aGQ (P : Program) (R : aa1) (n : Nat) (Z H : KT.H K) (T : TypeId) (m : Nat) (parts : List (Nat × Operand)) : Option (Nat × KT.H K × V) :=
  match ahp P T with
  | some E => match elK K T E m with
    | some c => match aF1 K P R H T m parts with
      | some (sz, l) => match Nat.beq sz (K.sz c) && abG K R n Z H with
        | true => match azd K c m H l with
          | some (ys, H2) => match Nat.ble (afl H2) n with
            | true => some (n + 1, (n, .row c ys) :: H2, .sl n)
            | false => none
          | none => none
        | false => none
      | none => none
    | none => none
  | none => none
def aGN (P : Program) (R : aa1) (n : Nat) (Z H : KT.H K) (T : TypeId) (x y : V) : Option (List Gd × Nat × KT.H K × V) :=
  match ahp P T with
  | some E => match K.tk E with
    | some c => match aj6 x with
      | some (_, a, _) => match aj6 y with
        | some (_, b, _) => match aFl P E with
          | some k => match P.info? E with
            | some inf => match inf.zero with
              | some (.int k' 0) => match K.bk c [.i k 0] with
                | some x0 => match aqY k k' && Nat.beq inf.size 1 && Nat.beq (K.sz c) 1 && Nat.ble inf.bytes 128 && abG K R n Z H with
                  | true => some ([⟨a = b, inferInstance⟩, ⟨0 ≤ a ∧ a ≤ 1099511627776, inferInstance⟩], n + 1, (n, .row c (List.replicate a.toNat x0)) :: H, .sl n)
                  | false => none
                | none => none
              | _ => none
            | none => none
          | none => match P.info? E with
              | some inf => match inf.zero with
                | some (.slice none 0 0) => match K.bk c [.row 3 []] with
                  | some x0 => match Nat.beq inf.size 1 && Nat.beq (K.sz c) 1 && Nat.ble inf.bytes 128 && abG K R n Z H with
                    | true => some ([⟨a = b, inferInstance⟩, ⟨0 ≤ a ∧ a ≤ 1099511627776, inferInstance⟩], n + 1, (n, .row c (List.replicate a.toNat x0)) :: H, .sl n)
                    | false => none
                  | none => none
                | some (.bool false) => match K.bk c [.b false] with
                  | some x0 => match Nat.beq inf.size 1 && Nat.beq (K.sz c) 1 && Nat.ble inf.bytes 128 && abG K R n Z H with
                    | true => some ([⟨a = b, inferInstance⟩, ⟨0 ≤ a ∧ a ≤ 1099511627776, inferInstance⟩], n + 1, (n, .row c (List.replicate a.toNat x0)) :: H, .sl n)
                    | false => none
                  | none => none
                | _ => none
              | none => none
        | none => none
      | none => none
    | none => none
  | none => none
def aGW (P : Program) (R : aa1) (n : Nat) (Z H : KT.H K) (T T' : TypeId) (x y : V) : Option (List Gd × Nat × KT.H K × V) :=
  match Nat.beq T T' with
  | true => match ahp P T with
    | some E => match P.info? E with
      | some inf => match axu K H E x with
        | some ⟨c, xs, H1⟩ => match y with
          | .sl id2 => match get H1 id2 with
            | some (.row c' ys') => match am5 c' c ys' with
              | some ys => match Nat.beq inf.size (K.sz c) && aEc inf.zero (K.sz c) && Nat.blt 0 (K.sz c) && Nat.ble inf.bytes 200 && abG K R n Z H && Nat.ble (afl (del H1 id2)) n with
                | true => some ([⟨(((xs.length + ys.length : Nat)) : Int) < 100000000000, inferInstance⟩], n + 1, (n, .row c (xs ++ ys)) :: del H1 id2, .sl n)
                | false => none
              | none => none
            | _ => none
          | _ => none
        | none => none
      | none => none
    | none => none
  | false => none
end
section
variable {K : KT} {P : Program} {nt n B : Nat} {W : World} {R : aa1} {Z H : KT.H K} {nx : Nat → KT.H K → V → Prop}
theorem aB5 {o : Oper} {T : TypeId} {m : Nat} {parts : Array (Nat × Operand)} {n' : Nat} {H' : KT.H K} {v : V} (ho : o.op = .buildSlice T m parts) (h : aGQ K P R n Z H T m parts.toList = some (n', H', v)) (hn : nx n' H' v) : aea K P nt B W o R n Z H nx := fun F ρ a w s => by
  obtain ⟨d, op, ty, ps, af, g⟩ := o
  simp only at ho
  subst ho
  unfold aGQ at h
  split at h
  · rename_i E0 hE
    split at h
    · rename_i c hc
      · split at h
        · rename_i sz l hb
          split at h
          · rename_i hB
            split at h
            · rename_i ys H2 hel
              split at h
              · rename_i hB2
                cases h
                simp only [Bool.and_eq_true, abG] at hB
                obtain ⟨b0, ⟨⟨b1, b2⟩, b3⟩⟩ := hB
                obtain rfl := Nat.eq_of_beq_eq_true b0
                have b2' := Nat.le_of_ble_eq_true b2
                have hB2' := Nat.le_of_ble_eq_true hB2
                obtain ⟨E, hl, hm, hr⟩ := ayu s.sat s.regs hb
                have : (execOp a.eval ⟨d, .buildSlice T m parts, ty, ps, af, g⟩).run P w = .ok (.value (.slice (some ⟨w.heap.size, 0, none⟩) m m)) (w.alloc (.cells (aag ρ l).toArray E)) := by
                  simp only [execOp]
                  rw [aaa hr]; rfl
                rw [this]
                have ha := ab5 ρ n ⟨some ⟨w.heap.size, 0, none⟩, m, m⟩
                refine ⟨⟨ρ.setS n ⟨some ⟨w.heap.size, 0, none⟩, m, m⟩, n + 1, _, .sl n⟩, by simp [aat, Env.setS], ⟨ha, Nat.le_succ _, (abE ha R (Nat.le_of_ble_eq_true b1)).symm, hn⟩, aeo s.below s.lo _, by simpa using Nat.le_succ_of_le s.lo, ?_⟩
                have s1 := s.sat.fresh (cs := (aag ρ l).toArray) (T := E) s.lo
                have s2 : Sat B (w.alloc (.cells (aag ρ l).toArray E)) (dH K ρ H ++ (pts w.heap.size 0 (aag ρ l) :: tl K Z F ρ)) := s1.perm (List.perm_middle (l₁ := dH K ρ H)).symm
                obtain ⟨vss, e1, e2, e3, e4, s3⟩ := asa hel s2
                have s4 : Sat B (w.alloc (.cells (aag ρ l).toArray E)) ((pts w.heap.size 0 (aag ρ l) :: acg K (pcS K) c ys vss) ++ (dH K ρ H2 ++ tl K Z F ρ)) := s3.perm ((List.Perm.append_left _ (List.perm_middle (l₁ := dH K ρ H2))).trans (List.perm_middle (l₁ := acg K (pcS K) c ys vss)))
                refine s4.imp fun h hk => ?_
                obtain ⟨j1, j2, a'', e'', q1, q2⟩ := aam.1 hk
                refine ⟨j1, j2, a'', e'', ⟨by simp [Env.setS, e4], ade.2 ⟨vss, aaL (fun k hp => ?_) q1⟩⟩, ?_⟩
                · rw [← e1, e4]
                  simp only [Env.setS, if_true]
                  exact aoU (by rw [aaR, List.length_map]; exact hl) hm k hp
                · rw [abP ha H2 hB2', acI b2' ha] at q2; exact q2
              · cases h
            · cases h
          · cases h
        · cases h
    · cases h
  · cases h
theorem aB7 {o : Oper} {T : TypeId} {m : Nat} {parts : Array (Nat × Operand)} {n' : Nat} {H' : KT.H K} {v : V} (ho : o.op = .buildSlice T m parts) (h : aGT K P R n Z H T m parts.toList = some (n', H', v)) (hn : nx n' H' v) : aea K P nt B W o R n Z H nx := fun F ρ a w s => by
  obtain ⟨d, op, ty, ps, af, g⟩ := o
  simp only at ho
  subst ho
  unfold aGT at h
  split at h
  · split at h
    · rename_i hp
      split at h
      · rename_i E hE
        split at h
        · rename_i inf hi
          split at h
          · rename_i c hc
            split at h
            · rename_i hB
              cases h
              simp only [Bool.and_eq_true, abG] at hB
              obtain ⟨⟨b1, b2⟩, b3⟩ := hB
              have b2' := Nat.le_of_ble_eq_true b2
              have hU := ab0 hE
              obtain rfl : parts = #[] := by apply Array.ext'; simpa using hp
              have hr : (Instr.buildSlice T 0 (#[].map fun (i, x) => (i, a.eval x))).run P w = .ok (.slice (some ⟨w.heap.size, 0, none⟩) 0 0) (w.alloc (.cells #[] E)) := by
                unfold Instr.buildSlice
                rw [aaa (acb hU)]
                simp only
                have h1 : (sizeOf E).run P w = .ok inf.size w := by unfold sizeOf; rw [aaa (ace hi)]; rfl
                rw [aaa h1]
                rw [if_neg (by omega)]
                simp only [Nat.zero_mul, if_true]
                show (Sem.run P _ w) = _
                simp only [pure_bind]
                simp [Instr.fill, newRow, newObj, Sem.run, World.alloc_eq]
                congr 2
                apply Array.ext'
                simp
              have : (execOp a.eval ⟨d, .buildSlice T 0 #[], ty, ps, af, g⟩).run P w = .ok (.value (.slice (some ⟨w.heap.size, 0, none⟩) 0 0)) (w.alloc (.cells #[] E)) := by
                simp only [execOp]
                rw [aaa hr]; rfl
              rw [this]
              have ha := ab5 ρ n ⟨some ⟨w.heap.size, 0, none⟩, 0, 0⟩
              refine ⟨⟨ρ.setS n ⟨some ⟨w.heap.size, 0, none⟩, 0, 0⟩, n + 1, _, .sl n⟩, by simp [aat, Env.setS], ⟨ha, Nat.le_succ _, (abE ha R (Nat.le_of_ble_eq_true b1)).symm, hn⟩, aeo s.below s.lo _, by simpa using Nat.le_succ_of_le s.lo, ?_⟩
              have s1 := s.sat.fresh (cs := #[]) (T := E) s.lo
              refine s1.imp fun h hk => ?_
              obtain ⟨k1, k2, a', e', hp, hq⟩ := hk
              refine ⟨k1, k2, a', e', ⟨by simp [Env.setS], ade.2 ⟨[], k1, fun _ _ => none, fun _ _ => .inr (.inl rfl), ?_, ?_, trivial⟩⟩, ?_⟩
              · funext x y
                unfold acW
                cases k1 x y <;> rfl
              · refine ⟨by simp, by simp [Env.setS], by simp [Env.setS, maxLen], .inr ⟨w.heap.size, 0, [], by simp [Env.setS], by simp [Env.setS], by simpa using hp⟩⟩
              · rw [dS, abP ha H (Nat.le_of_ble_eq_true b3), acI b2' ha] at hq
                exact hq
            · cases h
          · cases h
        · cases h
      · cases h
    · cases h
  · cases h
theorem aqH {A A2 : Option Addr} {m cap sz k c by_ ty : Nat} {T : TypeId} {vs us : List Value} {E : TypeId} {z : Value} {L : List aad} {w : World} (hT : P.underlying T = some (.slice E)) (hI : aAE P E z sz by_) (hz : z.cells.size = sz) (hsz : 0 < sz)
    (hsrc : k = 0 ∨ ∃ b o, A2 = some ⟨b, o, none⟩ ∧ ∀ j u, us[j]? = some u → w.cell? ⟨b, o + j, none⟩ = some u)
    (s : Sat B w (ae4 A m cap sz vs :: L)) (hb : Below B W w) (hl : B ≤ w.heap.size) (hu : us.length = k * sz) (ha : us.all ado = true) (hlen : m + k ≤ maxLen) (hby : (m + k) * by_ ≤ 140737488355328) :
    ∃ A' cap' w', (Builtin.append_ #[T, T] ty #[.slice A m cap, .slice A2 k c]).run P w = .ok (.slice A' (m + k) cap') w' ∧ Cls B W (ae4 A' (m + k) cap' sz (vs ++ us) :: L) w' := by
  rcases Nat.eq_zero_or_pos k with hk | hk
  · subst hk
    have hu0 : us = [] := List.length_eq_zero_iff.1 (by rw [hu]; simp)
    subst hu0
    obtain ⟨r1, r2, r3, r4⟩ := afo s (List.mem_cons_self ..)
    refine ⟨A, cap, w, ?_, hb, hl, by simpa using s⟩
    obtain ⟨i, hi, hz1, rfl, rfl⟩ := hI
    have h0 : (Builtin.firstCells i.size 0 (.slice A2 0 c)).run P w = .ok #[] w := by cases A2 <;> simp [Builtin.firstCells, loadCells, loadCellsFrom]
    cases A with
    | none => simp [Builtin.append_, acb hT, sizeOf, ace hi, Builtin.lenOf, h0, r2]
    | some a => simp [Builtin.append_, acb hT, sizeOf, ace hi, Builtin.lenOf, h0, r2, storeCells]
  · rcases hsrc with h0 | ⟨b, o, rfl, hc⟩
    · omega
    · exact awP (ty := ty) (c := c) (W := W) (b := b) (o := o) hT hI hz hsz hc s hb hl hu ha hk hlen hby
theorem ajd : ∀ {l : List (Fl K.T K.M)}, aje l = true → (l.map flV).all ado = true
  | [], _ => rfl
  | f :: l, h => by
    cases f <;> simp only [aje, Bool.false_eq_true] at h
    · rw [List.map_cons, List.all_cons, ajd h]; rfl
    · rw [List.map_cons, List.all_cons, ajd h]; rfl
theorem amN : ∀ {l : List (Fl K.T K.M)} {L : List aad} {B : Nat} {w : World}, aje l = true → Sat B w L → Sat B w (fsS (pcS K) l (l.map flV) ++ L)
  | [], _, _, _, _, s => s
  | f :: l, L, B, w, h, s => by
    cases f <;> simp only [aje, Bool.false_eq_true] at h
    · exact abn (p := pcS K _ _) (amN h s) fun k => aaE.2 rfl
    · exact abn (p := pcS K _ _) (amN h s) fun k => aaE.2 rfl
theorem asG {c : Nat} (hc : K.pl c = true) {L : List aad} {B : Nat} {w : World} (s : Sat B w L) : ∀ {ys : List (K.T c)}, Sat B w (acg K (pcS K) c ys (ys.map (aeR K c)) ++ L)
  | [] => s
  | y :: ys => by
    show Sat B w ((fsS (pcS K) (K.vw c y) ((K.vw c y).map flV) ++ acg K (pcS K) c ys (ys.map (aeR K c))) ++ L)
    rw [List.append_assoc]
    exact amN (K.pl_ok c hc y) (asG hc s)
theorem avS {α : Type} {enc : α → List Value} {sz : Nat} (henc : ∀ x, (enc x).length = sz) : ∀ {xs : List α} {j : Nat} {u : Value}, (xs.flatMap enc)[j]? = some u → ∃ i q x, xs[i]? = some x ∧ (enc x)[q]? = some u ∧ j = i * sz + q
  | [], j, u, h => by cases h
  | x :: xs, j, u, h => by
    rw [List.flatMap_cons] at h
    by_cases hj : j < sz
    · rw [List.getElem?_append_left (by rw [henc]; exact hj)] at h
      exact ⟨0, j, x, rfl, h, by omega⟩
    · rw [List.getElem?_append_right (by rw [henc]; omega), henc] at h
      obtain ⟨i, q, y, h1, h2, h3⟩ := avS henc h
      exact ⟨i + 1, q, y, by simpa using h1, h2, by rw [Nat.add_mul]; omega⟩
theorem azS {H : KT.H K} {y : V} {c : Nat} {ys : List (K.T c)} (h : aCe K H y = some ⟨c, ys⟩) (hc : K.pl c = true) (hz : 0 < K.sz c) {ρ : Env} {B : Nat} {w : World} {X : List aad} (s : Sat B w (dH K ρ H ++ X)) :
    ∃ A cap, aat ρ y = .slice A ys.length cap ∧ (ys.length = 0 ∨ ∃ b o, A = some ⟨b, o, none⟩ ∧ ∀ j u, (ys.flatMap (aeR K c))[j]? = some u → w.cell? ⟨b, o + j, none⟩ = some u) := by
  have hsl : ∀ {A : Option Addr} {B' : Nat}, Sl (aeR K c) (K.sz c) w B' A ys → (ys.length = 0 ∨ ∃ b o, A = some ⟨b, o, none⟩ ∧ ∀ j u, (ys.flatMap (aeR K c))[j]? = some u → w.cell? ⟨b, o + j, none⟩ = some u) := fun {A B'} hS => by
    rcases Nat.eq_zero_or_pos ys.length with e | e
    · exact .inl e
    · obtain ⟨b, o, hA, _, hcell⟩ := hS.2 (fun e' => by subst e'; simp at e)
      refine .inr ⟨b, o, hA, fun j u hj => ?_⟩
      obtain ⟨i, q, x, hx, hq, rfl⟩ := avS (fun x => by unfold aeR; rw [List.length_map, K.sz_ok]) hj
      rw [← Nat.add_assoc]; exact hcell i x hx q u hq
  unfold aCe at h
  split at h
  · rename_i id
    split at h
    · rename_i c' ys' hg
      cases h
      refine ⟨_, _, ai8 s (.inr hg), ?_⟩
      have s2 := aoV hg s
      exact hsl (asH s2 (List.mem_cons_self ..)).1
    · rename_i c' ys' hg
      cases h
      refine ⟨_, _, ai8 s (.inl hg), ?_⟩
      obtain ⟨hh, Hh, k1, k2, a, e, ⟨h1, h2⟩, hL⟩ := s.imp (aaN (ρ := ρ) hg)
      have s2 : Sat B w (rwS K c ys (ρ.s id).a (ρ.s id).c :: (dH K ρ (del H id) ++ X)) := ⟨hh, Hh, k1, k2, a, e, h2, hL⟩
      exact hsl (asH (au9 hc hz s2) (List.mem_cons_self ..)).1
    · cases h
  · cases h
theorem aCa {o : Oper} {T T' : TypeId} {x y : Operand} {u v : V} {gs : List Gd} {n' : Nat} {H' : KT.H K} {r : V} (ho : o.op = .call ⟨.builtin .append, #[x, y], #[T, T']⟩) (hx : evO R x = some u) (hy : evO R y = some v) (h : aGX K P R n Z H T T' u v = some (gs, n', H', r)) (hg : ∀ g ∈ gs, g.P) (hn : nx n' H' r) :
    aea K P nt B W o R n Z H nx := fun F ρ a w s => by
  obtain ⟨d, op, ty, ps, af, g⟩ := o
  simp only at ho
  subst ho
  have ex := (aaD (ρ := ρ) hx).eval s.regs
  have ey := (aaD (ρ := ρ) hy).eval s.regs
  unfold aGX at h
  split at h
  · rename_i hT
    obtain rfl := Nat.eq_of_beq_eq_true hT
    split at h
    · rename_i E hE
      split at h
      · rename_i inf hi
        split at h
        · rename_i c xs H1 hr
          split at h
          · rename_i c' ys' hs
            split at h
            · rename_i ys hy2
              split at h
              · rename_i hB
                cases h
                obtain ⟨rfl, rfl⟩ := agq hy2
                simp only [Bool.and_eq_true, abG] at hB
                obtain ⟨⟨⟨⟨⟨⟨b0, b1⟩, b2⟩, b4⟩, b5⟩, ⟨⟨b7, b8⟩, b9⟩⟩, bt⟩ := hB
                have b1' := Nat.eq_of_beq_eq_true b1
                obtain ⟨z, hz, hzsz⟩ := aqM b2
                have b4' : 0 < K.sz c' := Nat.le_of_ble_eq_true b4
                have b5' := Nat.le_of_ble_eq_true b5
                have b8' := Nat.le_of_ble_eq_true b8
                have bt' := Nat.le_of_ble_eq_true bt
                have hguard : (((xs.length + ys.length : Nat)) : Int) < 1000000000000 := hg _ (List.mem_singleton.2 rfl)
                obtain ⟨A, cap, hdx, htop, vss, h2, h3, s2⟩ := aq0 hr s.sat
                have s3 : Sat B w (dH K ρ (H1 ++ Z) ++ ([F] ++ (ae4 A xs.length cap (K.sz c') vss.flatten :: acg K (pcS K) c' xs vss))) := s2.perm (by
                  have e : dH K ρ (H1 ++ Z) = dH K ρ H1 ++ dH K ρ Z := by simp [dH]
                  rw [e, tl]
                  refine List.Perm.symm ?_
                  rw [← List.append_assoc (dH K ρ H1 ++ dH K ρ Z), List.append_assoc (dH K ρ H1)]
                  exact List.perm_append_comm.trans (by rw [List.cons_append]))
                obtain ⟨A2, cap2, hdy, hcells⟩ := azS hs b0 b4' s3
                have hby : (xs.length + ys.length) * inf.bytes ≤ 140737488355328 := by
                  have h1 : xs.length + ys.length ≤ 1000000000000 := by omega
                  have h2 : (xs.length + ys.length) * inf.bytes ≤ 1000000000000 * 140 := Nat.mul_le_mul h1 b5'
                  omega
                have hul : (ys.flatMap (aeR K c')).length = ys.length * K.sz c' := by
                  rw [List.flatMap_def, ajz (sz := K.sz c') fun v hv => by
                    obtain ⟨x, _, rfl⟩ := List.mem_map.1 hv
                    unfold aeR; rw [List.length_map, K.sz_ok]]
                  rw [List.length_map]
                have hsc : (ys.flatMap (aeR K c')).all ado = true := by
                  rw [List.all_eq_true]
                  intro q hq
                  obtain ⟨x, _, hx⟩ := List.mem_flatMap.1 hq
                  exact List.all_eq_true.1 (ajd (K.pl_ok c' b0 x)) q hx
                obtain ⟨A', cap', w', hrun, c1, c2, c3⟩ := aqH (ty := ty) (W := W) (c := cap2) (ab0 hE) ⟨inf, hi, hz, b1', rfl⟩ hzsz b4' hcells s2 s.below s.lo hul hsc (by unfold maxLen; omega) hby
                have : (execOp a.eval ⟨d, .call ⟨.builtin .append, #[x, y], #[T, T]⟩, ty, ps, af, g⟩).run P w = .ok (.value (.slice A' (xs.length + ys.length) cap')) w' := by
                  simp only [execOp, resolve, List.map_toArray, List.map_cons, List.map_nil, ex, ey, hdx, hdy]
                  simp only [invoke, builtin]
                  simp [hrun]
                rw [this]
                have ha := ab5 ρ n ⟨A', xs.length + ys.length, cap'⟩
                refine ⟨⟨ρ.setS n ⟨A', xs.length + ys.length, cap'⟩, n + 1, _, .sl n⟩, by simp [aat, Env.setS], ⟨ha, Nat.le_succ _, (abE ha R (Nat.le_of_ble_eq_true b7)).symm, hn⟩, c1, c2, ?_⟩
                have c4 := asG b0 c3 (ys := ys)
                refine c4.imp fun k hk => ?_
                have g5 : abH ((ae4 A' (xs ++ ys).length cap' (K.sz c') (vss ++ ys.map (aeR K c')).flatten :: acg K (pcS K) c' (xs ++ ys) (vss ++ ys.map (aeR K c'))) ++ (dH K ρ H1 ++ tl K Z F ρ)) k := by
                  rw [aob h2, List.length_append, List.flatten_append, ← List.flatMap_def]
                  refine abF ?_ hk
                  refine (List.perm_middle (l₁ := acg K (pcS K) c' ys (ys.map (aeR K c')))).trans (List.Perm.cons _ ?_)
                  exact (acV _ _ _).trans (by rw [← List.append_assoc]; exact List.Perm.refl _)
                obtain ⟨j1, j2, a'', e'', q1, q2⟩ := aam.1 g5
                refine ⟨j1, j2, a'', e'', ⟨by simp [Env.setS], ade.2 ⟨vss ++ ys.map (aeR K c'), ?_⟩⟩, ?_⟩
                · simpa [Env.setS] using q1
                · rw [abP ha H1 bt', acI b8' ha] at q2; exact q2
              · cases h
            · cases h
          · cases h
        · cases h
      · cases h
    · cases h
  · cases h
theorem ave {c : Nat} {x0 : K.T c} {f : Fl K.T K.M} {z : Value} (hv : K.vw c x0 = [f]) (hf : ∀ h, pcS K f z h) {L : List aad} {B : Nat} {w : World} (s : Sat B w L) : ∀ m : Nat, Sat B w (acg K (pcS K) c (List.replicate m x0) (List.replicate m [z]) ++ L)
  | 0 => s
  | m + 1 => by
    rw [List.replicate_succ, List.replicate_succ]
    simp only [acg, hv, fsS, List.cons_append, List.nil_append]
    exact abn (p := pcS K f z) (ave hv hf s m) hf
theorem aC6 {d : Option Tmp} {ty : TypeId} {ps : String} {af : Array Edge} {g : Option (Nat × Bool)} {T E : TypeId} {x y : Operand} {u v : V} {k1 k2 : IntKind} {aa : Int} {l1 l2 : Bool} {inf : TypeInfo} {z : Value} {c : Nat} {x0 : K.T c} {f : Fl K.T K.M} (hx : evO R x = some u) (hy : evO R y = some v) (hE : ahp P T = some E) (hu : aj6 u = some (k1, aa, l1)) (hv : aj6 v = some (k2, aa, l2)) (hi : P.info? E = some inf) (hz : inf.zero = some z) (hzc : z.cells = #[z]) (b1' : inf.size = 1) (b2' : K.sz c = 1) (b3' : inf.bytes ≤ 128) (hfr : abG K R n Z H = true) (g1 : 0 ≤ aa) (g2 : aa ≤ 1099511627776) (hvw : K.vw c x0 = [f]) (hf : ∀ h, pcS K f z h) (hn : nx (n + 1) ((n, .row c (List.replicate aa.toNat x0)) :: H) (.sl n)) :
    aea K P nt B W ⟨d, .makeSlice T x y, ty, ps, af, g⟩ R n Z H nx := fun F ρ a w s => by
  simp only [Bool.and_eq_true, abG] at hfr
  obtain ⟨⟨b7, b8⟩, b9⟩ := hfr
  have b8' := Nat.le_of_ble_eq_true b8
  have hot := aCT (L := dS K ρ Z H F) (W := W) (B := B) (n := nt) (d := d) (ty := ty) (ps := ps) (af := af) (g := g) (abW (ρ := ρ) hx hu) (abW (ρ := ρ) hy hv) (ab0 hE) ⟨inf, hi, hz, b1', rfl⟩ hzc g1 g2 b3' a w s
  revert hot
  generalize (execOp a.eval ⟨d, .makeSlice T x y, ty, ps, af, g⟩).run P w = res
  intro hot
  have fin : ∀ (b : Nat) (w' : World), Cls B W (pts b 0 (List.replicate aa.toNat z) :: dS K ρ Z H F) w' → ∃ ρ', aaw n ρ ρ' ∧ aat ρ' (.sl n) = .slice (some ⟨b, 0, none⟩) aa.toNat aa.toNat ∧ Cls B W (dS K ρ' Z ((n, .row c (List.replicate aa.toNat x0)) :: H) F) w' := by
    intro b w' hw'
    have ha := ab5 ρ n ⟨some ⟨b, 0, none⟩, aa.toNat, aa.toNat⟩
    refine ⟨ρ.setS n ⟨some ⟨b, 0, none⟩, aa.toNat, aa.toNat⟩, ha, by simp [aat, Env.setS], hw'.1, hw'.2.1, ?_⟩
    have s1 := ave hvw hf hw'.2.2 aa.toNat
    have s2 : Sat B w' ((pts b 0 (List.replicate aa.toNat z) :: acg K (pcS K) c (List.replicate aa.toNat x0) (List.replicate aa.toNat [z])) ++ dS K ρ Z H F) := s1.perm (List.perm_middle (l₁ := acg K (pcS K) c (List.replicate aa.toNat x0) (List.replicate aa.toNat [z])))
    refine s2.imp fun h hk => ?_
    obtain ⟨j1, j2, a'', e'', q1, q2⟩ := aam.1 hk
    refine ⟨j1, j2, a'', e'', ⟨by simp [Env.setS], ade.2 ⟨List.replicate aa.toNat [z], aaL (fun q hp => ?_) q1⟩⟩, ?_⟩
    · have e1 : (List.replicate aa.toNat [z]).flatten = List.replicate aa.toNat z := by
        induction aa.toNat with
        | zero => rfl
        | succ m ih => rw [List.replicate_succ, List.flatten_cons, ih, List.replicate_succ]; rfl
      rw [e1]
      simp only [Env.setS, if_true, List.length_replicate]
      exact aoU (by simp [b2']) (by unfold maxLen; omega) q hp
    · rw [dS, abP ha H (Nat.le_of_ble_eq_true b9), acI b8' ha] at q2; exact q2
  cases res with
  | halt x w' => exact hot
  | ok x w' =>
    cases x <;> first | exact hot | skip
    case value u' =>
      obtain ⟨b, rfl, hw'⟩ := hot
      obtain ⟨ρ', ha, hd, hc'⟩ := fin b w' hw'
      exact ⟨⟨ρ', n + 1, _, .sl n⟩, hd.symm, ⟨ha, Nat.le_succ _, (abE ha R (Nat.le_of_ble_eq_true b7)).symm, hn⟩, hc'⟩
    case skip =>
      obtain ⟨b, hb, hw'⟩ := hot
      cases hb
    case enter f args =>
      refine hot.mono fun e w'' ⟨b, he, hw'⟩ => ?_
      obtain ⟨ρ', ha, hd, hc'⟩ := fin b w'' hw'
      exact ⟨⟨ρ', n + 1, _, .sl n⟩, by rw [he]; exact congrArg _ hd.symm, ⟨ha, Nat.le_succ _, (abE ha R (Nat.le_of_ble_eq_true b7)).symm, hn⟩, hc'⟩
theorem aB3 {o : Oper} {T : TypeId} {x y : Operand} {u v : V} {gs : List Gd} {n' : Nat} {H' : KT.H K} {r : V} (ho : o.op = .makeSlice T x y) (hx : evO R x = some u) (hy : evO R y = some v) (h : aGN K P R n Z H T u v = some (gs, n', H', r)) (hg : ∀ g ∈ gs, g.P) (hn : nx n' H' r) :
    aea K P nt B W o R n Z H nx := fun F ρ a w s => by
  obtain ⟨d, op, ty, ps, af, g⟩ := o
  simp only at ho
  subst ho
  unfold aGN at h
  split at h
  · rename_i E hE
    split at h
    · rename_i c hc
      split at h
      · rename_i k1 aa l1 hu
        split at h
        · rename_i k2 bb l2 hv
          split at h
          · rename_i k hk
            split at h
            · rename_i inf hi
              split at h
              · rename_i k' hz
                split at h
                · rename_i x0 hx0
                  split at h
                  · rename_i hB
                    cases h
                    simp only [Bool.and_eq_true, abG] at hB
                    obtain ⟨⟨⟨⟨b0, b1⟩, b2⟩, b3⟩, ⟨⟨b7, b8⟩, b9⟩⟩ := hB
                    obtain rfl := agZ b0
                    have b1' := Nat.eq_of_beq_eq_true b1
                    have b2' := Nat.eq_of_beq_eq_true b2
                    have b3' := Nat.le_of_ble_eq_true b3
                    have b8' := Nat.le_of_ble_eq_true b8
                    obtain rfl : aa = bb := hg ⟨aa = bb, inferInstance⟩ (List.mem_cons_self ..)
                    obtain ⟨g1, g2⟩ : 0 ≤ aa ∧ aa ≤ 1099511627776 := hg ⟨0 ≤ aa ∧ aa ≤ 1099511627776, inferInstance⟩ (List.mem_cons_of_mem _ (List.mem_cons_self ..))
                    have hvw := K.bk_ok _ _ _ hx0
                    exact aC6 hx hy hE hu hv hi hz rfl b1' b2' b3' (by simp only [Bool.and_eq_true, abG]; exact ⟨⟨b7, b8⟩, b9⟩) g1 g2 hvw (fun h => aaE.2 rfl) hn F ρ a w s
                  · cases h
                · cases h
              · cases h
            · cases h
          · split at h
            · rename_i inf hi
              split at h
              · rename_i hz
                split at h
                · rename_i x0 hx0
                  split at h
                  · rename_i hB
                    cases h
                    simp only [Bool.and_eq_true] at hB
                    obtain ⟨⟨⟨b1, b2⟩, b3⟩, b4⟩ := hB
                    obtain rfl : aa = bb := hg ⟨aa = bb, inferInstance⟩ (List.mem_cons_self ..)
                    obtain ⟨g1, g2⟩ : 0 ≤ aa ∧ aa ≤ 1099511627776 := hg ⟨0 ≤ aa ∧ aa ≤ 1099511627776, inferInstance⟩ (List.mem_cons_of_mem _ (List.mem_cons_self ..))
                    have hvw := K.bk_ok _ _ _ hx0
                    refine aC6 hx hy hE hu hv hi hz rfl (Nat.eq_of_beq_eq_true b1) (Nat.eq_of_beq_eq_true b2) (Nat.le_of_ble_eq_true b3) b4 g1 g2 hvw (fun h => aaE.2 ⟨none, 0, rfl, ade.2 ⟨[], ?_⟩⟩) hn F ρ a w s
                    exact arQ _ _ trivial
                  · cases h
                · cases h
              · rename_i hz
                split at h
                · rename_i x0 hx0
                  split at h
                  · rename_i hB
                    cases h
                    simp only [Bool.and_eq_true] at hB
                    obtain ⟨⟨⟨b1, b2⟩, b3⟩, b4⟩ := hB
                    obtain rfl : aa = bb := hg ⟨aa = bb, inferInstance⟩ (List.mem_cons_self ..)
                    obtain ⟨g1, g2⟩ : 0 ≤ aa ∧ aa ≤ 1099511627776 := hg ⟨0 ≤ aa ∧ aa ≤ 1099511627776, inferInstance⟩ (List.mem_cons_of_mem _ (List.mem_cons_self ..))
                    have hvw := K.bk_ok _ _ _ hx0
                    exact aC6 hx hy hE hu hv hi hz rfl (Nat.eq_of_beq_eq_true b1) (Nat.eq_of_beq_eq_true b2) (Nat.le_of_ble_eq_true b3) b4 g1 g2 hvw (fun h => aaE.2 rfl) hn F ρ a w s
                  · cases h
                · cases h
              · cases h
            · cases h
        · cases h
      · cases h
    · cases h
  · cases h
theorem axI {f : Fl K.T K.M} {v : Value} {h : Hp} (hf : ∀ u, f ≠ .c u) (s : pcS K f v h) : ado v = true := by
  rw [aaE] at s
  cases f with
  | i k x => have e : v = .int k x := s; rw [e]; rfl
  | b x => have e : v = .bool x := s; rw [e]; rfl
  | c u => exact absurd rfl (hf u)
  | own c x => obtain ⟨q, e, _⟩ := s; rw [e]; rfl
  | row c xs => obtain ⟨A, cap, e, _⟩ := s; rw [e]; rfl
  | ro c xs => obtain ⟨A, cap, e, _⟩ := s; rw [e]; rfl
  | rr c xs => obtain ⟨A, cap, e, _⟩ := s; rw [e]; rfl
  | mach m =>
    simp only [pcW] at s
    split at s
    · rw [s]; rfl
    · obtain ⟨q, e, _⟩ := s; rw [e]; rfl
  | o => exact s
  | mp c ag m => obtain ⟨b, e, _⟩ := s; rw [e]; rfl
theorem apv : ∀ {l : List (Fl K.T K.M)} {vs : List Value} {L : List aad} {h : Hp}, (∀ f ∈ l, ∀ u, f ≠ .c u) → abH (fsS (pcS K) l vs ++ L) h → vs.all ado = true ∧ abH L h
  | [], [], _, _, _, s => ⟨rfl, s⟩
  | f :: l, v :: vs, L, h, hc, s => by
    obtain ⟨k1, k2, a, e, h1, h2⟩ := s
    obtain ⟨h3, h4⟩ := apv (fun f hf => hc f (List.mem_cons_of_mem _ hf)) h2
    refine ⟨by rw [List.all_cons, axI (hc f (List.mem_cons_self ..)) h1, h3]; rfl, ?_⟩
    have : abH (pcS K f v :: (fsS (pcS K) l vs ++ L)) h := ⟨k1, k2, a, e, h1, h2⟩
    have := Ent.drop h this
    exact (apv (fun f hf => hc f (List.mem_cons_of_mem _ hf)) this).2
  | [], _ :: _, _, _, _, ⟨_, _, _, _, hf, _⟩ => hf.elim
  | _ :: _, [], _, _, _, ⟨_, _, _, _, hf, _⟩ => hf.elim
theorem aqf {c : Nat} (hc : ∀ x : K.T c, ∀ f ∈ K.vw c x, ∀ u, f ≠ .c u) : ∀ {ys : List (K.T c)} {vss : List (List Value)} {L : List aad} {h : Hp}, abH (acg K (pcS K) c ys vss ++ L) h → vss.flatten.all ado = true ∧ abH L h
  | [], [], _, _, s => ⟨rfl, s⟩
  | y :: ys, vs :: vss, L, h, s => by
    have s' : abH (fsS (pcS K) (K.vw c y) vs ++ (acg K (pcS K) c ys vss ++ L)) h := by simpa [acg] using s
    obtain ⟨h1, h2⟩ := apv (hc y) s'
    obtain ⟨h3, h4⟩ := aqf hc h2
    exact ⟨by rw [List.flatten_cons, List.all_append, h1, h3]; rfl, h4⟩
  | [], _ :: _, _, _, ⟨_, _, _, _, hf, _⟩ => hf.elim
  | _ :: _, [], _, _, ⟨_, _, _, _, hf, _⟩ => hf.elim
theorem aB9 {o : Oper} {T T' : TypeId} {x y : Operand} {u v : V} {gs : List Gd} {n' : Nat} {H' : KT.H K} {r : V} (hnc : ∀ (c : Nat) (x : K.T c), ∀ f ∈ K.vw c x, ∀ u, f ≠ .c u) (ho : o.op = .call ⟨.builtin .append, #[x, y], #[T, T']⟩) (hx : evO R x = some u) (hy : evO R y = some v) (h : aGW K P R n Z H T T' u v = some (gs, n', H', r)) (hg : ∀ g ∈ gs, g.P) (hn : nx n' H' r) :
    aea K P nt B W o R n Z H nx := fun F ρ a w s => by
  obtain ⟨d, op, ty, ps, af, g⟩ := o
  simp only at ho
  subst ho
  have ex := (aaD (ρ := ρ) hx).eval s.regs
  have ey := (aaD (ρ := ρ) hy).eval s.regs
  unfold aGW at h
  split at h
  · rename_i hT
    obtain rfl := Nat.eq_of_beq_eq_true hT
    split at h
    · rename_i E hE
      split at h
      · rename_i inf hi
        split at h
        · rename_i c xs H1 hr
          split at h
          · rename_i id2
            split at h
            · rename_i c' ys' hgr
              split at h
              · rename_i ys hy2
                split at h
                · rename_i hB
                  cases h
                  obtain ⟨rfl, rfl⟩ := agq hy2
                  simp only [Bool.and_eq_true, abG] at hB
                  obtain ⟨⟨⟨⟨⟨b1, b2⟩, b4⟩, b5⟩, ⟨⟨b7, b8⟩, b9⟩⟩, bt⟩ := hB
                  have b1' := Nat.eq_of_beq_eq_true b1
                  obtain ⟨z, hz, hzsz⟩ := aqM b2
                  have b4' : 0 < K.sz c' := Nat.le_of_ble_eq_true b4
                  have b5' := Nat.le_of_ble_eq_true b5
                  have b8' := Nat.le_of_ble_eq_true b8
                  have bt' := Nat.le_of_ble_eq_true bt
                  have hguard : (((xs.length + ys.length : Nat)) : Int) < 100000000000 := hg _ (List.mem_singleton.2 rfl)
                  obtain ⟨A, cap, hdx, htop, vss, h2, h3, s2⟩ := aq0 hr s.sat
                  have s3 : Sat B w (dH K ρ H1 ++ (ae4 A xs.length cap (K.sz c') vss.flatten :: (acg K (pcS K) c' xs vss ++ tl K Z F ρ))) := s2.perm (by
                    refine List.Perm.symm ?_
                    refine (List.perm_middle (l₁ := dH K ρ H1)).trans (List.Perm.cons _ ?_)
                    exact acV _ _ _)
                  have hdy := ai8 s3 (.inl hgr)
                  obtain ⟨hn2, vs2, e1, e2, s4⟩ := aky s3 hgr
                  obtain ⟨r1, r2, r3, r4⟩ := afo s4 (List.mem_cons_self ..)
                  have s5 : Sat B w (ae4 A xs.length cap (K.sz c') vss.flatten :: (acg K (pcS K) c' ys vs2 ++ (acg K (pcS K) c' xs vss ++ (dH K ρ (del H1 id2) ++ tl K Z F ρ)))) := by
                    have s6 : Sat B w (acg K (pcS K) c' ys vs2 ++ (dH K ρ (del H1 id2) ++ (ae4 A xs.length cap (K.sz c') vss.flatten :: (acg K (pcS K) c' xs vss ++ tl K Z F ρ)))) := s4.drop
                    refine s6.perm ?_
                    refine (List.Perm.append_left _ (List.perm_middle (l₁ := dH K ρ (del H1 id2)))).trans ?_
                    refine (List.perm_middle (l₁ := acg K (pcS K) c' ys vs2)).trans (List.Perm.cons _ ?_)
                    exact List.Perm.append_left _ (acV _ _ _)
                  have hby : (xs.length + ys.length) * inf.bytes ≤ 140737488355328 := by
                    have h1 : xs.length + ys.length ≤ 100000000000 := by omega
                    have h2 : (xs.length + ys.length) * inf.bytes ≤ 100000000000 * 200 := Nat.mul_le_mul h1 b5'
                    omega
                  have hul : vs2.flatten.length = ys.length * K.sz c' := by rw [ajz e2, e1]
                  have hsc : vs2.flatten.all ado = true := by
                    have s7 := s5.drop
                    obtain ⟨hh, Hh, hs⟩ := s7
                    exact (aqf (hnc c') hs).1
                  have hcells : ys.length = 0 ∨ ∃ b o, (ρ.s id2).a = some ⟨b, o, none⟩ ∧ ∀ j u, vs2.flatten[j]? = some u → w.cell? ⟨b, o + j, none⟩ = some u := by
                    rcases r4 with ⟨_, r4⟩ | ⟨b, o, r4, r5⟩
                    · left; omega
                    · exact .inr ⟨b, o, r4, r5⟩
                  obtain ⟨A', cap', w', hrun, c1, c2, c3⟩ := aqH (ty := ty) (W := W) (c := (ρ.s id2).c) (ab0 hE) ⟨inf, hi, hz, b1', rfl⟩ hzsz b4' hcells s5 s.below s.lo hul hsc (by unfold maxLen; omega) hby
                  have : (execOp a.eval ⟨d, .call ⟨.builtin .append, #[x, y], #[T, T]⟩, ty, ps, af, g⟩).run P w = .ok (.value (.slice A' (xs.length + ys.length) cap')) w' := by
                    simp only [execOp, resolve, List.map_toArray, List.map_cons, List.map_nil, ex, ey, hdx, hdy]
                    simp only [invoke, builtin]
                    simp [hrun]
                  rw [this]
                  have ha := ab5 ρ n ⟨A', xs.length + ys.length, cap'⟩
                  refine ⟨⟨ρ.setS n ⟨A', xs.length + ys.length, cap'⟩, n + 1, _, .sl n⟩, by simp [aat, Env.setS], ⟨ha, Nat.le_succ _, (abE ha R (Nat.le_of_ble_eq_true b7)).symm, hn⟩, c1, c2, ?_⟩
                  refine c3.imp fun k hk => ?_
                  have g5 : abH ((ae4 A' (xs ++ ys).length cap' (K.sz c') (vss ++ vs2).flatten :: acg K (pcS K) c' (xs ++ ys) (vss ++ vs2)) ++ (dH K ρ (del H1 id2) ++ tl K Z F ρ)) k := by
                    rw [aob h2, List.length_append, List.flatten_append]
                    refine abF (List.Perm.cons _ ?_) hk
                    exact (acV _ _ _).trans (by rw [← List.append_assoc]; exact List.Perm.refl _)
                  obtain ⟨j1, j2, a'', e'', q1, q2⟩ := aam.1 g5
                  refine ⟨j1, j2, a'', e'', ⟨by simp [Env.setS], ade.2 ⟨vss ++ vs2, ?_⟩⟩, ?_⟩
                  · simpa [Env.setS] using q1
                  · rw [abP ha _ bt', acI b8' ha] at q2; exact q2
                · cases h
              · cases h
            · cases h
          · cases h
        · cases h
      · cases h
    · cases h
  · cases h
end
end
end Go.Proofs.YteapeojalliebaaGreat
