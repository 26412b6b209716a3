/- Evaluation by itself: slices whose cells are known one by one. No program occurs here. Evaluation by itself: kinds by their shapes. No program occurs here. Evaluation by itself: data from values, values from data. No program occurs here. Evaluation by itself: an element of a row, taken out of it. No program occurs here. -/
import Derived.Test.YteapeojalliebaaGreatHqae
import Derived.Test.YteapeojalliebaaGreatHqab
import Derived.Test.YteapeojalliebaaGreatHqad
set_option linter.all false
namespace Go.Proofs.YteapeojalliebaaGreat
section
open Go Go.RowKit
theorem axC {b o : Nat} {xs ys : List Value} {h k : Hp} (a : apart h k) (p : pts b o xs h) (q : pts b (o + xs.length) ys k) : pts b o (xs ++ ys) (acW h k) := fun i v hi => by
  rcases Nat.lt_or_ge i xs.length with hl | hl
  · rw [List.getElem?_append_left hl] at hi
    unfold acW; rw [p i v hi]
  · rw [List.getElem?_append_right hl] at hi
    have := q (i - xs.length) v hi
    rw [show o + xs.length + (i - xs.length) = o + i by omega] at this
    rw [aps a]
    unfold acW; rw [this]
def hpL (b o : Nat) (h : Hp) : Hp := fun x y => if x = b ∧ y < o then h x y else none
def hpR (b o : Nat) (h : Hp) : Hp := fun x y => if x = b ∧ y < o then none else h x y
theorem aAG (b o : Nat) (h : Hp) : apart (hpL b o h) (hpR b o h) ∧ h = acW (hpL b o h) (hpR b o h) := by
  refine ⟨fun x y => ?_, ?_⟩
  · by_cases hc : x = b ∧ y < o
    · exact .inr (.inl (by unfold hpR; rw [if_pos hc]))
    · exact .inl (by unfold hpL; rw [if_neg hc])
  · funext x y
    unfold acW hpL hpR
    by_cases hc : x = b ∧ y < o
    · rw [if_pos hc, if_pos hc]; cases h x y <;> rfl
    · rw [if_neg hc, if_neg hc]
theorem awq {b o : Nat} {xs ys : List Value} {L : List aad} {h : Hp} (s : abH ((fun k => pts b o (xs ++ ys) k) :: L) h) : abH (pts b o xs :: pts b (o + xs.length) ys :: L) h := by
  obtain ⟨k1, k2, a, e, hp, hL⟩ := s
  obtain ⟨p1, p2⟩ := amH hp
  obtain ⟨a1, e1⟩ := aAG b (o + xs.length) k1
  have q1 : pts b o xs (hpL b (o + xs.length) k1) := fun i v hi => by
    have hl := (List.getElem?_eq_some_iff.1 hi).1
    unfold hpL; rw [if_pos ⟨rfl, by omega⟩]; exact p1 i v hi
  have q2 : pts b (o + xs.length) ys (hpR b (o + xs.length) k1) := fun i v hi => by
    unfold hpR; rw [if_neg (by omega)]; exact p2 i v hi
  rw [e1] at a e
  have a2 := (aa3 a1).1 a
  refine ⟨_, acW (hpR b (o + xs.length) k1) k2, ?_, by rw [e, ac4], q1, _, k2, a2.2, rfl, q2, hL⟩
  exact aar ((aa3 a2.2).2 ⟨aar a1, aar a2.1⟩)
section
variable {K : KT}
def azC {T : Nat → Type} {M : Type} : List (Fd T M) → Option (List V)
  | [] => some []
  | .v x :: l => match azC l with
    | some xs => some (x :: xs)
    | none => none
  | .f _ :: _ => none
theorem auW {T : Nat → Type} {M : Type} : ∀ {l : List (Fd T M)} {vs : List V}, azC l = some vs → l = vs.map .v
  | [], vs, h => by cases h; rfl
  | .v x :: l, vs, h => by
    unfold azC at h
    split at h
    · rename_i xs hx; cases h; rw [auW hx]; rfl
    · cases h
  | .f _ :: _, _, h => by cases h
theorem apx {ρ : Env} : ∀ {vs : List V} {us : List Value} {L : List aad} {h : Hp}, abH (fsS (fS K ρ) (vs.map .v) us ++ L) h → us = aag ρ vs ∧ abH L h
  | [], [], _, _, s => ⟨rfl, s⟩
  | v :: vs, u :: us, L, h, ⟨k1, k2, a, e, h1, h2⟩ => by
    have h1' : u = aat ρ v := h1
    obtain ⟨h3, h4⟩ := apx h2
    refine ⟨by rw [h1', h3]; rfl, ?_⟩
    have s : abH (fS K ρ (.v v) u :: (fsS (fS K ρ) (vs.map .v) us ++ L)) h := ⟨k1, k2, a, e, h1, h2⟩
    exact (apx (Ent.drop h s)).2
  | [], _ :: _, _, _, ⟨_, _, _, _, hf, _⟩ => hf.elim
  | _ :: _, [], _, _, ⟨_, _, _, _, hf, _⟩ => hf.elim
theorem azV {ρ : Env} {B : Nat} {w : World} {H : KT.H K} {X : List aad} {id e m sz : Nat} {vs : List V} (s : Sat B w (dH K ρ H ++ X)) (hg : get H id = some (.slc e m sz)) (hg2 : get (del H id) e = some (.cells (vs.map .v))) (hl : vs.length = m * sz) :
    (ρ.s id).n = m ∧ Sat B w (ae4 (ρ.s id).a m (ρ.s id).c sz (aag ρ vs) :: (dH K ρ (del (del H id) e) ++ X)) := by
  have h1 := au6 s hg
  refine ⟨h1.2, ?_⟩
  have s1 := s.imp (aaN (ρ := ρ) hg)
  obtain ⟨hh, Hh, k1, k2, a, e1, ⟨⟨c1, c2, c3, c4⟩, spare, c5, c6⟩, hL⟩ := s1
  have s2 : Sat B w (pts (ρ.p e).1 ((ρ.p e).2 + m * sz) spare :: (dH K ρ (del H id) ++ X)) := ⟨hh, Hh, k1, k2, a, e1, c6, hL⟩
  have s3 := (s2.perm (List.perm_middle (l₁ := dH K ρ (del H id))).symm).imp (aaN (ρ := ρ) hg2)
  obtain ⟨us, s4⟩ := agY s3
  have s5 : Sat B w (fsS (fS K ρ) (vs.map .v) us ++ (pts (ρ.p e).1 (ρ.p e).2 us :: (dH K ρ (del (del H id) e) ++ (pts (ρ.p e).1 ((ρ.p e).2 + m * sz) spare :: X)))) := s4.perm (List.perm_middle (l₁ := fsS (fS K ρ) (vs.map .v) us)).symm
  obtain ⟨h6, Hh6, s6⟩ := s5
  obtain ⟨rfl, s7⟩ := apx s6
  have s8 : abH (pts (ρ.p e).1 (ρ.p e).2 (aag ρ vs) :: pts (ρ.p e).1 ((ρ.p e).2 + m * sz) spare :: (dH K ρ (del (del H id) e) ++ X)) h6 := abF (List.Perm.cons _ (List.perm_middle (l₁ := dH K ρ (del (del H id) e)))) s7
  obtain ⟨j1, j2, ja, je, p1, j3, j4, ja2, je2, p2, jL⟩ := s8
  have hdl : (aag ρ vs).length = m * sz := by rw [aaR, List.length_map, hl]
  subst je2
  have a3 := (aa3 ja2).1 (aar ja)
  refine ⟨h6, Hh6, acW j1 j3, j4, ?_, by rw [je, ac4], ⟨hdl, c3, c4, .inr ⟨_, _, spare, c1, c5, ?_⟩⟩, jL⟩
  · exact (aa3 (aar a3.1)).2 ⟨aar a3.2, ja2⟩
  · exact axC (aar a3.1) p1 (by rw [hdl]; exact p2)
variable (K) in
def aCj (H : KT.H K) (sz : Nat) : V → Option (Nat × List V × KT.H K)
  | .sl id => match get H id with
    | some (.slc e m sz') => match get (del H id) e with
      | some (.cells fs) => match azC fs with
        | some vs => match Nat.beq sz' sz && Nat.beq vs.length (m * sz) with
          | true => some (m, vs, del (del H id) e)
          | false => none
        | none => none
      | _ => none
    | _ => none
  | .c (.slice none 0 0) => some (0, [], H)
  | _ => none
theorem azW {H : KT.H K} {sz : Nat} {x : V} {m : Nat} {vs : List V} {H1 : KT.H K} (h : aCj K H sz x = some (m, vs, H1)) {ρ : Env} {B : Nat} {w : World} {X : List aad} (s : Sat B w (dH K ρ H ++ X)) :
    ∃ A cap, aat ρ x = .slice A m cap ∧ afl H1 ≤ afl H ∧ vs.length = m * sz ∧ Sat B w (ae4 A m cap sz (aag ρ vs) :: (dH K ρ H1 ++ X)) := by
  unfold aCj at h
  split at h
  · rename_i id
    split at h
    · rename_i e m' sz' hg
      split at h
      · rename_i fs hg2
        split at h
        · rename_i us hv
          split at h
          · rename_i hB
            cases h
            simp only [Bool.and_eq_true] at hB
            obtain rfl := Nat.eq_of_beq_eq_true hB.1
            have hl := Nat.eq_of_beq_eq_true hB.2
            rw [auW hv] at hg2
            obtain ⟨h1, h2⟩ := azV s hg hg2 hl
            exact ⟨_, _, by rw [aat, h1], Nat.le_trans afk afk, hl, h2⟩
          · cases h
        · cases h
      · cases h
    · cases h
  · cases h
    exact ⟨none, 0, rfl, Nat.le_refl _, by simp, s.imp (arQ _)⟩
  · cases h
variable (K) in
def aGV (P : Program) (R : aa1) (n : Nat) (Z H : KT.H K) (T T' : TypeId) (x y : V) : Option (Nat × KT.H K × V) :=
  match Nat.beq T T' with
  | true => match ahp P T with
    | some E => match P.info? E with
      | some inf => match y with
        | .sl id2 => match get H id2 with
          | some (.arr m2 sz us) => match aCj K (del H id2) sz x with
            | some (m, vs, H1) => match Nat.beq inf.size sz && aEc inf.zero sz && Nat.blt 0 m2 && Nat.blt 0 sz && Nat.ble ((m + m2) * inf.bytes) 1000000 && Nat.ble (m + m2) 1000000 && (us.all (scV (del H id2)) && Nat.ble (ahZ (vs ++ us)) n && abG K R n Z H && Nat.ble (afl H1) n) with
              | true => some (n + 2, (n, .slc (n + 1) (m + m2) sz) :: (n + 1, .cells ((vs ++ us).map .v)) :: H1, .sl n)
              | false => none
            | none => none
          | _ => none
        | _ => none
      | none => none
    | none => none
  | false => none
variable {P : Program} {nt n B : Nat} {W : World} {R : aa1} {Z H : KT.H K} {nx : Nat → KT.H K → V → Prop}
theorem aB8 {o : Oper} {T T' : TypeId} {x y : Operand} {u v : V} {n' : Nat} {H' : KT.H K} {r : V} (ho : o.op = .call ⟨.builtin .append, #[x, y], #[T, T']⟩) (hx : evO R x = some u) (hy : evO R y = some v) (h : aGV K P R n Z H T T' u v = some (n', H', r)) (hn : nx n' H' r) :
    aea K P nt B W o R n Z H nx := fun F ρ a w s => by
  obtain ⟨d, op, ty, ps, af, g⟩ := o
  simp only at ho
  subst ho
  have ex := (aaD (ρ := ρ) hx).eval s.regs
  have ey := (aaD (ρ := ρ) hy).eval s.regs
  unfold aGV at h
  split at h
  · rename_i hT
    obtain rfl := Nat.eq_of_beq_eq_true hT
    split at h
    · rename_i E hE
      split at h
      · rename_i inf hi
        split at h
        · rename_i id2
          split at h
          · rename_i m2 sz us hg2
            split at h
            · rename_i m vs H1 hr
              split at h
              · rename_i hB
                cases h
                simp only [Bool.and_eq_true, abG] at hB
                obtain ⟨⟨⟨⟨⟨⟨b1, b2⟩, b3⟩, b4⟩, b5⟩, b6⟩, ⟨⟨b7, b8⟩, ⟨⟨b9, b10⟩, b11⟩⟩, b12⟩ := hB
                have b1' := Nat.eq_of_beq_eq_true b1
                obtain ⟨z, hz, hzsz⟩ := aqM b2
                have b3' : 0 < m2 := Nat.le_of_ble_eq_true b3
                have b4' : 0 < sz := Nat.le_of_ble_eq_true b4
                have b5' := Nat.le_of_ble_eq_true b5
                have b6' := Nat.le_of_ble_eq_true b6
                have b8' := Nat.le_of_ble_eq_true b8
                have b10' := Nat.le_of_ble_eq_true b10
                have b12' := Nat.le_of_ble_eq_true b12
                obtain ⟨⟨a1, a2, a3⟩, s4⟩ := awa (X := tl K Z F ρ) s.sat hg2
                have hsc : (aag ρ us).all ado = true := by
                  rw [aaR, List.all_map, List.all_eq_true]
                  intro q hq
                  exact axl (List.all_eq_true.1 b7 q hq) s4.drop
                have s5 : Sat B w (dH K ρ (del H id2) ++ (pts (ρ.p id2).1 (ρ.p id2).2 (aag ρ us) :: tl K Z F ρ)) := s4.perm (List.perm_middle (l₁ := dH K ρ (del H id2))).symm
                obtain ⟨A, cap, hdx, htop, hvl, s6⟩ := azW hr s5
                have s7 : Sat B w (ae4 A m cap sz (aag ρ vs) :: pts (ρ.p id2).1 (ρ.p id2).2 (aag ρ us) :: (dH K ρ H1 ++ tl K Z F ρ)) := s6.perm (List.Perm.cons _ (List.perm_middle (l₁ := dH K ρ H1)))
                obtain ⟨A', cap', w', hrun, c1, c2, c3⟩ := aqI (ty := ty) (c := m2) (W := W) (ab0 hE) ⟨inf, hi, hz, b1', rfl⟩ hzsz b4' s7 s.below s.lo (by rw [aaR]; simpa using a2) hsc b3' (by unfold maxLen; omega) (by omega)
                have : (execOp a.eval ⟨d, .call ⟨.builtin .append, #[x, y], #[T, T]⟩, ty, ps, af, g⟩).run P w = .ok (.value (.slice A' (m + m2) cap')) w' := by
                  simp only [execOp, resolve, List.map_toArray, List.map_cons, List.map_nil, ex, ey, hdx, aat, a1]
                  simp only [invoke, builtin]
                  simp [hrun]
                rw [this]
                obtain ⟨r1, r2, r3, r4⟩ := afo c3 (List.mem_cons_self ..)
                have hA : ∃ b o, A' = some ⟨b, o, none⟩ := by
                  rcases r4 with ⟨_, r4⟩ | ⟨b, o, r4, _⟩
                  · omega
                  · exact ⟨b, o, r4⟩
                obtain ⟨b, o, rfl⟩ := hA
                let ρ' := (ρ.setP (n + 1) (b, o)).setS n ⟨some ⟨b, o, none⟩, m + m2, cap'⟩
                have ha : aaw n ρ ρ' := ((ahR ρ (n + 1) (b, o)).le (Nat.le_succ _)).trans (ab5 _ n _) (Nat.le_refl _)
                refine ⟨⟨ρ', n + 2, _, .sl n⟩, by simp [aat, ρ', Env.setS], ⟨ha, Nat.le_add_right _ 2, (abE ha R (Nat.le_of_ble_eq_true b9)).symm, hn⟩, c1, c2, ?_⟩
                have c4 : Sat B w' (ae4 (some ⟨b, o, none⟩) (m + m2) cap' sz (aag ρ vs ++ aag ρ us) :: (dH K ρ H1 ++ tl K Z F ρ)) := (c3.perm (List.Perm.swap ..)).drop
                refine c4.imp fun k hk => ?_
                obtain ⟨k1, k2, ka, ke, ⟨q1, q2, q3, q4⟩, hL⟩ := hk
                rcases q4 with ⟨q4, _⟩ | ⟨b', o', spare, q4, q5, q6⟩
                · cases q4
                · injection q4 with q4
                  injection q4 with q4a q4b
                  subst q4a q4b
                  have hall : abH ((fun k => pts b o ((aag ρ vs ++ aag ρ us) ++ spare) k) :: (dH K ρ H1 ++ tl K Z F ρ)) k := ⟨k1, k2, ka, ke, q6, hL⟩
                  have hsp := awq hall
                  rw [q1] at hsp
                  have e3 : dH K ρ H1 ++ tl K Z F ρ = dH K ρ' H1 ++ tl K Z F ρ' := by rw [abP ha H1 b12', acI b10' ha]
                  rw [e3] at hsp
                  have e4 : aag ρ vs ++ aag ρ us = aag ρ' (vs ++ us) := by rw [← apG, adO ha _ b8']
                  have hsw : abH (pts b (o + (m + m2) * sz) spare :: pts b o (aag ρ vs ++ aag ρ us) :: (dH K ρ' H1 ++ tl K Z F ρ')) k := aoP hsp
                  refine aaL (A' := acj K ρ' n (.slc (n + 1) (m + m2) sz)) (fun q hq => ⟨⟨by simp [ρ', Env.setS, Env.setP], by simp [ρ', Env.setS], by simp [ρ', Env.setS]; exact q2, by simp [ρ', Env.setS]; exact q3⟩, spare, by simp [ρ', Env.setS]; exact q5, by simpa [ρ', Env.setS, Env.setP] using hq⟩) (abm (fun q hq => ?_) hsw)
                  refine aaL (A' := acj K ρ' (n + 1) (.cells ((vs ++ us).map .v))) (fun q hq => ?_) hq
                  refine ⟨aag ρ' (vs ++ us), ?_⟩
                  rw [e4] at hq
                  have hq' : abH [pts b o (aag ρ' (vs ++ us))] q := ⟨q, fun _ _ => none, fun _ _ => .inr (.inl rfl), by funext x y; unfold acW; cases q x y <;> rfl, hq, trivial⟩
                  have hq2 := abF (List.Perm.symm (List.perm_append_comm (l₁ := fsS (fS K ρ') ((vs ++ us).map .v) (aag ρ' (vs ++ us))) (l₂ := [pts b o (aag ρ' (vs ++ us))])).symm) (aih (K := K) hq')
                  have hq3 := abF (List.perm_append_comm (l₁ := fsS (fS K ρ') ((vs ++ us).map .v) (aag ρ' (vs ++ us)))) (aih (K := K) hq')
                  simpa [ρ', Env.setS, Env.setP] using hq3
              · cases h
            · cases h
          · cases h
        · cases h
      · cases h
    · cases h
  · cases h
variable (K) in
def aD5 (P : Program) (R : aa1) (H : KT.H K) (T : TypeId) (x y : Operand) : Option ((Nat × Nat) × (Nat × Int × Nat) × IntKind) :=
  match evO R x with
  | some (.sl id) => match get H id with
    | some (.slc e m sz) => match ago P T with
      | some sz' => match Nat.beq sz' sz with
        | true => match evO R y with
          | some u => match aj6 u with
            | some (k, j, _) => some ((e, 0), (m, j, sz), k)
            | none => none
          | none => none
        | false => none
      | none => none
    | _ => none
  | _ => none
theorem ays {ρ : Env} {T : TypeId} {x y : Operand} {id o len sz : Nat} {j : Int} {kk : IntKind} {X : List aad} {w0 : World} (h : aD5 K P R H T x y = some ((id, o), (len, j, sz), kk)) (s : Sat B w0 (dH K ρ H ++ X)) {a : Act} (r : Regs nt a (dR ρ R)) {i : Nat} (hi : i < len) (hj : j = ((i : Nat) : Int))
    {d : Option Tmp} {ty : TypeId} {ps : String} {af : Array Edge} {g : Option (Nat × Bool)} (w : World) : (execOp a.eval ⟨d, .indexAddr T x y, ty, ps, af, g⟩).run P w = .ok (.value (aat ρ (.ptr id (o + i * sz)))) w := by
  unfold aD5 at h
  split at h
  · rename_i id' hx
    split at h
    · rename_i e m sz' hg
      split at h
      · rename_i sz2 he
        split at h
        · rename_i hsz
          split at h
          · rename_i u hy
            split at h
            · rename_i k' j' l' hi'
              cases h
              obtain rfl := Nat.eq_of_beq_eq_true hsz
              have ex := aaD (ρ := ρ) hx
              have ey := abW (ρ := ρ) hy hi'
              obtain ⟨h1, h2⟩ := au6 s hg
              simp only [aat, h1, h2] at ex
              have := ah5 (P := P) (n := nt) (d := d) (ty := ty) (ps := ps) (af := af) (g := g) (i := i) (o' := (ρ.p id).2 + (0 + i * sz2)) ex ey hj hi he (by omega)
              exact this a w r
            · cases h
          · cases h
        · cases h
      · cases h
    · cases h
  · cases h
theorem aAR {ρ : Env} {T : TypeId} {x y : Operand} {q : Nat × Nat} {len sz : Nat} {j : Int} {kk : IntKind} (h : aD5 K P R H T x y = some (q, (len, j, sz), kk)) : ∃ u, evO R y = some u ∧ aat ρ u = .int kk j := by
  unfold aD5 at h
  split at h
  · split at h
    · split at h
      · split at h
        · split at h
          · rename_i u hy
            split at h
            · rename_i hi
              cases h; exact ⟨u, hy, afs hi⟩
            · cases h
          · cases h
        · cases h
      · cases h
    · cases h
  · cases h
end
inductive Sh where
  | i (k : IntKind)
  | b
  | own (c : Nat)
  | row (c : Nat)
  | ro (c : Nat)
  | rr (c : Nat)
  | mach
  | o
  | mp (c : Nat) (ag : Bool)
section
variable (T : Nat → Type) (M : Type)
def shT : Sh → Type
  | .i _ => Int
  | .b => Bool
  | .own c => T c
  | .row c => List (T c)
  | .ro c => List (T c)
  | .rr c => List (List (T c))
  | .mach => M
  | .o => Unit
  | .mp c _ => Int → Option (T c)
def HL : List Sh → Type
  | [] => Unit
  | s :: l => shT T M s × HL l
def vw1 : (s : Sh) → shT T M s → Fl T M
  | .i k, x => .i k x
  | .b, x => .b x
  | .own c, x => .own c x
  | .row c, x => .row c x
  | .ro c, x => .ro c x
  | .rr c, x => .rr c x
  | .mach, x => .mach x
  | .o, _ => .o
  | .mp c ag, x => .mp c ag x
def vwP : (l : List Sh) → HL T M l → List (Fl T M)
  | [], _ => []
  | s :: l, p => vw1 T M s p.1 :: vwP l p.2
def cst {F : Nat → Type} (c c' : Nat) (x : F c) : Option (F c') := if h : c = c' then some (h ▸ x) else none
theorem atr {F : Nat → Type} {c c' : Nat} {x : F c} {y : F c'} (h : cst c c' x = some y) : ∃ e : c = c', y = e ▸ x := by
  unfold cst at h
  split at h
  · rename_i e; cases h; exact ⟨e, rfl⟩
  · cases h
def aG4 : IntKind → IntKind → Bool
  | .i64, .i64 => true
  | .u64, .u64 => true
  | .u8, .u8 => true
  | _, _ => false
theorem aDQ {k k' : IntKind} (h : aG4 k k' = true) : k = k' := by cases k <;> cases k' <;> first | rfl | cases h
def bk1 : (s : Sh) → Fl T M → Option (shT T M s)
  | .i k => fun f => match f with
    | .i k' x => match aG4 k' k with
      | true => some x
      | false => none
    | _ => none
  | .b => fun f => match f with
    | .b x => some x
    | _ => none
  | .own c => fun f => match f with
    | .own c' x => cst (F := T) c' c x
    | _ => none
  | .row c => fun f => match f with
    | .row c' x => cst (F := fun c => List (T c)) c' c x
    | _ => none
  | .ro c => fun f => match f with
    | .ro c' x => cst (F := fun c => List (T c)) c' c x
    | _ => none
  | .rr c => fun f => match f with
    | .rr c' x => cst (F := fun c => List (List (T c))) c' c x
    | _ => none
  | .mach => fun f => match f with
    | .mach x => some x
    | _ => none
  | .o => fun f => match f with
    | .o => some ()
    | _ => none
  | .mp c ag => fun f => match f with
    | .mp c' ag' x => match ag' == ag with
      | true => cst (F := fun c => Int → Option (T c)) c' c x
      | false => none
    | _ => none
theorem ay3 {s : Sh} {f : Fl T M} {x : shT T M s} (h : bk1 T M s f = some x) : vw1 T M s x = f := by
  cases s with
  | i k =>
    cases f <;> first | (have h' : (none : Option (shT T M (.i k))) = some x := h; cases h'; done) | skip
    rename_i k' y
    have h' : (match aG4 k' k with | true => some y | false => none) = some x := h
    split at h'
    · rename_i e; cases h'; rw [aDQ e]; rfl
    · cases h'
  | b =>
    cases f <;> first | (have h' : (none : Option (shT T M .b)) = some x := h; cases h'; done) | skip
    rename_i y
    have h' : some y = some x := h
    cases h'; rfl
  | own c =>
    cases f <;> first | (have h' : (none : Option (shT T M (.own c))) = some x := h; cases h'; done) | skip
    rename_i c' y
    obtain ⟨e, h2⟩ := atr (show cst (F := T) c' c y = some x from h)
    subst e; subst h2; rfl
  | row c =>
    cases f <;> first | (have h' : (none : Option (shT T M (.row c))) = some x := h; cases h'; done) | skip
    rename_i c' y
    obtain ⟨e, h2⟩ := atr (show cst (F := fun c => List (T c)) c' c y = some x from h)
    subst e; subst h2; rfl
  | ro c =>
    cases f <;> first | (have h' : (none : Option (shT T M (.ro c))) = some x := h; cases h'; done) | skip
    rename_i c' y
    obtain ⟨e, h2⟩ := atr (show cst (F := fun c => List (T c)) c' c y = some x from h)
    subst e; subst h2; rfl
  | rr c =>
    cases f <;> first | (have h' : (none : Option (shT T M (.rr c))) = some x := h; cases h'; done) | skip
    rename_i c' y
    obtain ⟨e, h2⟩ := atr (show cst (F := fun c => List (List (T c))) c' c y = some x from h)
    subst e; subst h2; rfl
  | mach =>
    cases f <;> first | (have h' : (none : Option (shT T M .mach)) = some x := h; cases h'; done) | skip
    rename_i y
    have h' : some y = some x := h
    cases h'; rfl
  | o =>
    cases f <;> first | (have h' : (none : Option (shT T M .o)) = some x := h; cases h'; done) | skip
    rfl
  | mp c ag =>
    cases f <;> first | (have h' : (none : Option (shT T M (.mp c ag))) = some x := h; cases h'; done) | skip
    rename_i c' ag' y
    have h' : (match ag' == ag with | true => cst (F := fun c => Int → Option (T c)) c' c y | false => none) = some x := h
    split at h'
    · rename_i e0
      obtain ⟨e, h2⟩ := atr h'
      have e1 : ag' = ag := eq_of_beq e0
      subst e; subst h2; subst e1; rfl
    · cases h'
def bkP : (l : List Sh) → List (Fl T M) → Option (HL T M l)
  | [], [] => some ()
  | s :: l, f :: fs => match bk1 T M s f with
    | some x => match bkP l fs with
      | some p => some (x, p)
      | none => none
    | none => none
  | _, _ => none
theorem ay2 : ∀ {l : List Sh} {fs : List (Fl T M)} {p : HL T M l}, bkP T M l fs = some p → vwP T M l p = fs
  | [], [], p, _ => rfl
  | s :: l, f :: fs, p, h => by
    unfold bkP at h
    split at h
    · rename_i x hx
      split at h
      · rename_i q hq
        cases h
        show vw1 T M s x :: vwP T M l q = _
        rw [ay3 _ _ hx, ay2 hq]
      · cases h
    · cases h
  | [], _ :: _, _, h => by cases h
  | _ :: _, [], _, h => by cases h
theorem aEj (s : Sh) (x : shT T M s) (u : Value) : vw1 T M s x ≠ .c u := by cases s <;> exact fun h => by cases h
theorem aBn : ∀ (l : List Sh) (p : HL T M l), ∀ f ∈ vwP T M l p, ∀ u, f ≠ .c u
  | [], _, f, h, _ => by cases h
  | s :: l, p, f, h, u => by
    rcases List.mem_cons.1 (show f ∈ vw1 T M s p.1 :: vwP T M l p.2 from h) with e | e
    · subst e; exact aEj T M s p.1 u
    · exact aBn l p.2 f e u
theorem aw2 : ∀ {l : List Sh} {p : HL T M l}, (vwP T M l p).length = l.length
  | [], _ => rfl
  | s :: l, p => by
    show (vw1 T M s p.1 :: vwP T M l p.2).length = _
    rw [List.length_cons, aw2, List.length_cons]
def aEM : List Sh → Bool
  | [] => true
  | s :: l => match s with
    | .i _ => aEM l
    | .b => aEM l
    | _ => false
theorem at5 : ∀ (l : List Sh) (p : HL T M l), aEM l = true → aje (vwP T M l p) = true
  | [], _, _ => rfl
  | .i k :: l, p, h => at5 l p.2 h
  | .b :: l, p, h => at5 l p.2 h
  | .own _ :: _, _, h => by cases h
  | .row _ :: _, _, h => by cases h
  | .ro _ :: _, _, h => by cases h
  | .rr _ :: _, _, h => by cases h
  | .mach :: _, _, h => by cases h
  | .o :: _, _, h => by cases h
  | .mp .. :: _, _, h => by cases h
end
structure Shp where
  T : Nat → Type
  M : Type
  sh : Nat → List Sh
  to_ : (c : Nat) → T c → HL T M (sh c)
  of : (c : Nat) → HL T M (sh c) → T c
  ok : ∀ c p, to_ c (of c p) = p
  df : (c : Nat) → T c
  tid : Nat → TypeId
  tk : TypeId → Option Nat
  spl : M → Option (Σ c : Nat, T c)
  nilM : M
  nilM_ok : spl nilM = none
  mkM : (c : Nat) → T c → Option M
  mkM_ok : ∀ c x m, mkM c x = some m → spl m = some ⟨c, x⟩
  kd : TypeId → Option Nat
  kd_ok : ∀ t c, kd t = some c → tid c = t
  ls : (c c' : Nat) → Option (PLift (T c' = List (T c)))
  ls_ok : ∀ c c' h, ls c c' = some h → ∀ x, vwP T M (sh c') (to_ c' x) = [.ro c (h.down ▸ x)] ∨ (vwP T M (sh c') (to_ c' x) = [.row c (h.down ▸ x)] ∧ aEM (sh c) = true ∧ 0 < (sh c).length)
abbrev Shp.kt (S : Shp) : KT where
  T := S.T
  M := S.M
  df := S.df
  sz := fun c => (S.sh c).length
  vw := fun c x => vwP S.T S.M (S.sh c) (S.to_ c x)
  bk := fun c l => (bkP S.T S.M (S.sh c) l).map (S.of c)
  bk_ok := fun c l x h => by
    simp only [Option.map_eq_some_iff] at h
    obtain ⟨p, hp, rfl⟩ := h
    rw [S.ok]; exact ay2 _ _ hp
  sz_ok := fun c x => aw2 _ _
  pl := fun c => aEM (S.sh c)
  pl_ok := fun c h x => at5 _ _ _ _ h
  nc := fun c x => aBn _ _ _ _
  tid := S.tid
  tk := S.tk
  spl := S.spl
  nilM := S.nilM
  nilM_ok := S.nilM_ok
  mkM := S.mkM
  mkM_ok := S.mkM_ok
  kd := S.kd
  kd_ok := S.kd_ok
  ls := S.ls
  ls_ok := S.ls_ok
theorem aaq {α : Type _} {l m : List α} (h : ∀ (f : List α → Nat) (g : α → Nat), (∀ x y, f (x ++ y) = f x + f y) → (∀ a x, f (a :: x) = g a + f x) → f [] = 0 → f l = f m) : l.Perm m := by
  classical
  rw [List.perm_iff_count]
  intro a
  refine h (fun l => l.count a) (fun x => if x == a then 1 else 0) (fun x y => List.count_append) (fun b x => ?_) rfl
  simp only [List.count_cons]; omega
theorem aoI {T : Nat → Type} {M : Type} : ∀ l : List (Fl T M), ald (l.map (Fd.f : Fl T M → Fd T M)) = 0
  | [] => rfl
  | _ :: l => by simp only [List.map_cons, ald, aoI l, aBo]; rfl
theorem ahs {B : Nat} {w : World} {N L : List aad} {A : aad} (f : ∀ h, abH N h → A h) (s : Sat B w (N ++ L)) : Sat B w (A :: L) := by
  obtain ⟨h, Hh, hs⟩ := s
  obtain ⟨k1, k2, a, e, g1, g2⟩ := aam.1 hs
  exact ⟨h, Hh, k1, k2, a, e, f _ g1, g2⟩
section
variable (S : Shp)
def chL (n : Nat) : Option (Ch S.T S.M) → List (Nat × Ch S.T S.M)
  | none => []
  | some c => [(n, c)]
def opL : Nat → List (Fl S.T S.M) → List V × List (Nat × Ch S.T S.M)
  | _, [] => ([], [])
  | n, f :: l => ((opF S.kt.vw n (.f f)).1 :: (opL (n + 1) l).1, chL S n (opF S.kt.vw n (.f f)).2 ++ (opL (n + 1) l).2)
def dfS : (s : Sh) → shT S.T S.M s
  | .i _ => (0 : Int)
  | .b => false
  | .own c => S.df c
  | .row _ => []
  | .ro _ => []
  | .rr _ => []
  | .mach => S.nilM
  | .o => ()
  | .mp .. => fun _ => none
def azc (H : S.kt.H) (s : Sh) (v : V) : Option (shT S.T S.M s × S.kt.H) :=
  match asm S.kt H (vw1 S.T S.M s (dfS S s)) v with
  | some (f, H') => match bk1 S.T S.M s f with
    | some x => some (x, H')
    | none => none
  | none => none
def roZ (Z : S.kt.H) (s : Sh) (v : V) : Option (shT S.T S.M s) :=
  match s with
  | .ro c => match v with
    | .sl id => match get Z id with
      | some (.ro c' xs) => am5 c' c xs
      | _ => none
    | _ => none
  | _ => none
def aF9 (Z H : S.kt.H) (s : Sh) (v : V) : Option (shT S.T S.M s × S.kt.H) :=
  match azc S H s v with
  | some r => some r
  | none => match roZ S Z s v with
    | some x => some (x, H)
    | none => none
end
section
variable {S : Shp} {B : Nat} {w : World}
theorem dHa {ρ : Env} (H H' : List (Nat × Ch S.T S.M)) : dH S.kt ρ (H ++ H') = dH S.kt ρ H ++ dH S.kt ρ H' := by simp [dH]
theorem ape {n : Nat} {f : Fl S.T S.M} {v : Value} {ρ : Env} {Y : List aad} {X : Env → List aad} (hX : ∀ ρ ρ', aaw n ρ ρ' → X ρ = X ρ') (s : Sat B w (pcS S.kt f v :: (Y ++ X ρ))) :
    ∃ ρ', aaw n ρ ρ' ∧ v = aat ρ' (opF S.kt.vw n (.f f)).1 ∧ Sat B w (Y ++ (dH S.kt ρ' (chL S n (opF S.kt.vw n (.f f)).2) ++ X ρ')) := by
  obtain ⟨h, Hh, k1, k2, a, e, hA, hL⟩ := s
  obtain ⟨ρ', ha, hv, hd⟩ := ax2 (K := S.kt) (ρ := ρ) (n := n) (f := .f f) (Nat.zero_le _) hA
  refine ⟨ρ', ha, hv, ?_⟩
  rw [hX ρ ρ' ha] at hL
  cases hc : (opF S.kt.vw n (.f f)).2 with
  | none =>
    have : Sat B w (pcS S.kt f v :: (Y ++ X ρ')) := ⟨h, Hh, k1, k2, a, e, hA, hL⟩
    exact this.imp Ent.drop
  | some c =>
    rw [hc] at hd
    have : Sat B w (acj S.kt ρ' n c :: (Y ++ X ρ')) := ⟨h, Hh, k1, k2, a, e, hd, hL⟩
    exact this.perm (List.perm_middle (l₁ := Y)).symm
theorem auK {n : Nat} {f : Fl S.T S.M} {ρ ρ' : Env} (h : aaw (n + 1) ρ ρ') : dH S.kt ρ (chL S n (opF S.kt.vw n (.f f)).2) = dH S.kt ρ' (chL S n (opF S.kt.vw n (.f f)).2) := by
  cases hc : (opF S.kt.vw n (.f f)).2 with
  | none => rfl
  | some c =>
    have := (ah6 (K := S.kt) (n := n) (f := .f f) (Nat.zero_le _)).2 c hc
    refine abP h _ ?_
    exact ap4 ⟨ap4 ⟨Nat.le_refl _, Nat.le_succ_of_le this⟩, Nat.zero_le _⟩
theorem alN : ∀ {l : List (Fl S.T S.M)} {n : Nat} {ρ ρ' : Env}, aaw (n + l.length) ρ ρ' → aag ρ (opL S n l).1 = aag ρ' (opL S n l).1 ∧ dH S.kt ρ (opL S n l).2 = dH S.kt ρ' (opL S n l).2
  | [], _, _, _, _ => ⟨rfl, rfl⟩
  | f :: l, n, ρ, ρ', a => by
    have a' : aaw (n + 1 + l.length) ρ ρ' := a.le (by simp only [List.length_cons]; omega)
    obtain ⟨t3, t4⟩ := alN a'
    have htop := (ah6 (K := S.kt) (n := n) (f := .f f) (Nat.zero_le _)).1
    simp only [opL, aag, dHa]
    rw [aa9 (a.le (by simp only [List.length_cons]; omega)) _ htop, t3, auK (a.le (by simp only [List.length_cons]; omega)), t4]
    exact ⟨rfl, rfl⟩
theorem ax1 : ∀ {l : List (Fl S.T S.M)} {n : Nat} {us : List Value} {ρ : Env} {Y : List aad} {X : Env → List aad}, (∀ ρ ρ', aaw n ρ ρ' → X ρ = X ρ') → Sat B w (fsS (pcS S.kt) l us ++ (Y ++ X ρ)) →
    ∃ ρ', aaw n ρ ρ' ∧ us = aag ρ' (opL S n l).1 ∧ Sat B w (Y ++ (dH S.kt ρ' (opL S n l).2 ++ X ρ'))
  | [], n, us, ρ, Y, X, hX, s => by
    have := ai9 (pc := pcS S.kt) (A := fun _ => True) (abn (p := fun _ => True) s fun _ => trivial)
    cases us with
    | nil => exact ⟨ρ, aaw.refl _ _, rfl, s⟩
    | cons u us => cases this
  | f :: l, n, us, ρ, Y, X, hX, s => by
    have hlen := ai9 (pc := pcS S.kt) (A := fun _ => True) (abn (p := fun _ => True) s fun _ => trivial)
    cases us with
    | nil => cases hlen
    | cons u us =>
      obtain ⟨ρ1, a1, e1, s1⟩ := ape (Y := fsS (pcS S.kt) l us ++ Y) (X := X) hX (by
        rw [List.append_assoc]; exact s)
      have hX1 : ∀ ρ ρ', aaw (n + 1) ρ ρ' → (fun ρ => dH S.kt ρ (chL S n (opF S.kt.vw n (.f f)).2) ++ X ρ) ρ = (fun ρ => dH S.kt ρ (chL S n (opF S.kt.vw n (.f f)).2) ++ X ρ) ρ' := fun ρ ρ' h => by
        show _ ++ _ = _ ++ _
        rw [auK h, hX _ _ (h.le (Nat.le_succ n))]
      rw [List.append_assoc] at s1
      obtain ⟨ρ2, a2, e2, s2⟩ := ax1 (n := n + 1) (X := fun ρ => dH S.kt ρ (chL S n (opF S.kt.vw n (.f f)).2) ++ X ρ) hX1 s1
      have htop := (ah6 (K := S.kt) (n := n) (f := .f f) (Nat.zero_le _)).1
      refine ⟨ρ2, a1.trans a2 (Nat.le_succ n), ?_, ?_⟩
      · simp only [opL, aag]
        rw [e1, ← e2, aa9 a2 _ htop]
      · simp only [opL, dHa]
        refine s2.perm (List.Perm.append_left _ ?_)
        rw [List.append_assoc]
        exact acV _ _ _
theorem awA {n : Nat} {f : Fl S.T S.M} {X : Env → List aad} (hX : ∀ ρ ρ', aaw n ρ ρ' → X ρ = X ρ') : ∀ ρ ρ', aaw (n + 1) ρ ρ' → (fun ρ => dH S.kt ρ (chL S n (opF S.kt.vw n (.f f)).2) ++ X ρ) ρ = (fun ρ => dH S.kt ρ (chL S n (opF S.kt.vw n (.f f)).2) ++ X ρ) ρ' := fun ρ ρ' h => by
  show _ ++ _ = _ ++ _
  rw [auK h, hX _ _ (h.le (Nat.le_succ n))]
theorem aFo {n m : Nat} {l : List (Fl S.T S.M)} (hm : l.length = m) {X : Env → List aad} (hX : ∀ ρ ρ', aaw n ρ ρ' → X ρ = X ρ') : ∀ ρ ρ', aaw (n + m) ρ ρ' → (fun ρ => dH S.kt ρ (opL S n l).2 ++ X ρ) ρ = (fun ρ => dH S.kt ρ (opL S n l).2 ++ X ρ) ρ' := fun ρ ρ' h => by
  subst hm
  show _ ++ _ = _ ++ _
  rw [(alN h).2, hX _ _ (h.le (Nat.le_add_right ..))]
theorem aiy {H H' : S.kt.H} {s0 : Sh} {v : V} {x : shT S.T S.M s0} (h : azc S H s0 v = some (x, H')) {ρ : Env} {X : List aad} (s : Sat B w (dH S.kt ρ H ++ X)) : Sat B w (pcS S.kt (vw1 S.T S.M s0 x) (aat ρ v) :: (dH S.kt ρ H' ++ X)) := by
  unfold azc at h
  split at h
  · rename_i f H1 hf
    split at h
    · rename_i y hy
      cases h
      rw [ay3 _ _ hy]
      exact apU _ _ _ _ _ hf ρ X B w s
    · cases h
  · cases h
end
section
variable {S : Shp} {B : Nat} {w : World} {ρ : Env}
theorem aCC {id c : Nat} {xs : List (S.T c)} {H : S.kt.H} (hg : get H id = some (.ro c xs)) {X : List aad} (s : Sat B w (dH S.kt ρ H ++ X)) : Sat B w (pcS S.kt (.ro c xs) (aat ρ (.sl id)) :: (dH S.kt ρ H ++ X)) := by
  have hv := ai8 (K := S.kt) s (.inr hg)
  obtain ⟨h0, H0, t0⟩ := s
  refine ⟨h0, H0, ?_⟩
  obtain ⟨j1, j2, a1, e1, ⟨_, m2⟩, mL⟩ := aaN (ρ := ρ) hg h0 t0
  obtain ⟨p, hp, hΦ⟩ := m2
  have hpp : ∀ b o x, p b o = some x → (∃ v, x = .look v) ∧ h0 b o = some x := fun b o x hx => ⟨(hp b o x hx).1, by rw [e1]; unfold acW; rw [(hp b o x hx).2]⟩
  refine ⟨p, h0, fun b o => ?_, ?_, aaE.2 (show pcW S.kt (obS S.kt) (rwS S.kt) (.ro c xs) (aat ρ (.sl id)) p from ⟨_, _, hv, p, fun b o x hx => ⟨(hpp b o x hx).1, hx⟩, hΦ⟩), t0⟩
  · cases hpb : p b o with
    | none => exact .inl rfl
    | some x =>
      obtain ⟨⟨v, rfl⟩, h2⟩ := hpp b o x hpb
      exact .inr (.inr ⟨v, rfl, h2⟩)
  · funext b o
    unfold acW
    cases hpb : p b o with
    | none => rfl
    | some x => exact (hpp b o x hpb).2
theorem ay8 {Z H H' : S.kt.H} {s0 : Sh} {v : V} {x : shT S.T S.M s0} (h : aF9 S Z H s0 v = some (x, H')) {X : List aad} (s : Sat B w (dH S.kt ρ H ++ (dH S.kt ρ Z ++ X))) : Sat B w (pcS S.kt (vw1 S.T S.M s0 x) (aat ρ v) :: (dH S.kt ρ H' ++ (dH S.kt ρ Z ++ X))) := by
  unfold aF9 at h
  split at h
  · rename_i h1; cases h; exact aiy h1 s
  · split at h
    · rename_i y hy
      cases h
      cases s0 with
      | ro c =>
        cases v with
        | sl id =>
          have hy' : (match get Z id with | some (.ro c' xs) => am5 c' c xs | _ => none) = some x := hy
          cases hg : get Z id with
          | none => rw [hg] at hy'; exact absurd hy' (by simp)
          | some ch =>
            rw [hg] at hy'
            cases ch with
            | ro c' xs =>
              obtain ⟨e, h2⟩ := agq hy'
              subst e
              subst h2
              have s1 : Sat B w (dH S.kt ρ Z ++ (dH S.kt ρ H ++ X)) := s.perm (acV _ _ _)
              exact (aCC hg s1).perm (List.Perm.cons _ (acV _ _ _))
            | _ => exact absurd hy' (by simp)
        | _ => exact (by have hy' : (none : Option _) = some x := hy; cases hy')
      | _ => exact (by have hy' : (none : Option _) = some x := hy; cases hy')
    · cases h
end
section
variable {K : KT} {B : Nat} {w : World} {ρ : Env}
theorem aAI {H : KT.H K} {e j c : Nat} {i : Int} {xs : List (K.T c)} {X : List aad} (hel : get H e = some (.elt j i (K.sz c))) (hg : get H j = some (.row c xs)) (s : Sat B w (dH K ρ H ++ X)) :
    Sat B w (acj K ρ e (.cells ((K.vw c (atL (K.df c) xs i)).map .f)) :: acj K ρ j (.gap c xs i e) :: (dH K ρ (del H j) ++ X)) := by
  obtain ⟨hi, b, o2, hA, hp⟩ := ato s hel
  obtain ⟨hn, vss, h2, h3, s2⟩ := aky s hg
  rw [hn] at hi
  have hxi := aep (d := K.df c) hi
  have hlt : i.toNat < vss.length := by omega
  have hvs : vss[i.toNat]? = some vss[i.toNat] := List.getElem?_eq_getElem hlt
  have hvl := h3 _ (List.getElem_mem hlt)
  obtain ⟨hh, Hh, k1, k2, a, e1, ⟨r1, r2, r3, r4⟩, hL⟩ := s2
  rcases r4 with ⟨r4, _⟩ | ⟨b', o', spare, hA', hsp, hpts⟩
  · rw [r4] at hA; cases hA
  · rw [hA] at hA'
    cases hA'
    obtain ⟨N, p1, p2⟩ := aht (pc := pcS K) hxi hvs
    have hfl := adM h3
    have hlow : i.toNat * K.sz c + K.sz c ≤ vss.flatten.length := by
      rw [hfl]
      have : (i.toNat + 1) * K.sz c ≤ vss.length * K.sz c := Nat.mul_le_mul_right _ hlt
      rw [Nat.add_mul] at this; omega
    have hmid : (vss.flatten.drop (i.toNat * K.sz c)).take (K.sz c) = vss[i.toNat] := by
      apply List.ext_getElem?
      intro q
      by_cases hq : q < K.sz c
      · rw [List.getElem?_take_of_lt hq, List.getElem?_drop]
        rw [aka h3 hvs (v := (vss[i.toNat])[q]'(by omega)) (List.getElem?_eq_getElem _), List.getElem?_eq_getElem]
      · rw [List.getElem?_eq_none (by rw [List.length_take, List.length_drop]; omega), List.getElem?_eq_none (by omega)]
    have e2 : vss.flatten ++ spare = vss.flatten.take (i.toNat * K.sz c) ++ (vss[i.toNat] ++ (vss.flatten.drop (i.toNat * K.sz c + K.sz c) ++ spare)) := by
      rw [← hmid, ← List.drop_drop, ← List.append_assoc (List.take _ _), ← List.append_assoc, List.append_assoc (List.take (i.toNat * K.sz c) _), List.take_append_drop, List.take_append_drop]
    have t1 : Sat B w (pts b o2 (vss.flatten.take (i.toNat * K.sz c) ++ (vss[i.toNat] ++ (vss.flatten.drop (i.toNat * K.sz c + K.sz c) ++ spare))) :: (acg K (pcS K) c xs vss ++ (dH K ρ (del H j) ++ X))) := by
      rw [← e2]; exact ⟨hh, Hh, k1, k2, a, e1, hpts, hL⟩
    have t2 := t1.imp amF
    have htl : (vss.flatten.take (i.toNat * K.sz c)).length = i.toNat * K.sz c := by rw [List.length_take]; omega
    rw [htl] at t2
    have t3 := (t2.perm (List.Perm.swap ..)).imp amF
    rw [hvl] at t3
    have t4 : Sat B w ((pts b (o2 + i.toNat * K.sz c) vss[i.toNat] :: fsS (pcS K) (K.vw c (atL (K.df c) xs i)) vss[i.toNat]) ++ ((pts b o2 (vss.flatten.take (i.toNat * K.sz c)) :: pts b (o2 + i.toNat * K.sz c + K.sz c) (vss.flatten.drop (i.toNat * K.sz c + K.sz c) ++ spare) :: N) ++ (dH K ρ (del H j) ++ X))) := by
      refine t3.perm ?_
      simp only [List.cons_append]
      refine List.Perm.cons _ ?_
      refine (List.Perm.swap ..).trans ?_
      refine List.Perm.trans ?_ (List.perm_middle).symm
      refine List.Perm.cons _ ?_
      refine List.Perm.trans ?_ (List.perm_middle).symm
      refine List.Perm.cons _ ?_
      exact (p1.append_right _).trans (by rw [List.append_assoc])
    have t5 : Sat B w (acj K ρ e (.cells ((K.vw c (atL (K.df c) xs i)).map .f)) :: ((pts b o2 (vss.flatten.take (i.toNat * K.sz c)) :: pts b (o2 + i.toNat * K.sz c + K.sz c) (vss.flatten.drop (i.toNat * K.sz c + K.sz c) ++ spare) :: N) ++ (dH K ρ (del H j) ++ X))) := by
      refine ahs (fun k hk => ⟨vss[i.toNat], ?_⟩) t4
      show abH (pts (ρ.p e).1 (ρ.p e).2 vss[i.toNat] :: fsS (fS K ρ) (List.map Fd.f (K.vw c (atL (K.df c) xs i))) vss[i.toNat]) k
      rw [hp, apw (pcS K) (fS K ρ) (fun x v => rfl)]
      exact hk
    have t6 := t5.perm (List.perm_middle (l₁ := pts b o2 (vss.flatten.take (i.toNat * K.sz c)) :: pts b (o2 + i.toNat * K.sz c + K.sz c) (vss.flatten.drop (i.toNat * K.sz c + K.sz c) ++ spare) :: N) (l₂ := dH K ρ (del H j) ++ X)).symm
    have t7 : Sat B w (acj K ρ j (.gap c xs i e) :: (acj K ρ e (.cells ((K.vw c (atL (K.df c) xs i)).map .f)) :: (dH K ρ (del H j) ++ X))) := by
      refine ahs (fun k hk => ?_) t6
      exact ⟨b, o2, vss, spare, N, hi, ⟨hA, hn, hp⟩, ⟨by omega, h3⟩, ⟨r2, r3, hsp⟩, fun x' vs' => p2 x' vs', hk⟩
    exact t7.perm (List.Perm.swap ..)
theorem aym {H H1 : KT.H K} {e j c : Nat} {i : Int} {xs : List (K.T c)} {fs : List (Fd K.T K.M)} {l : List (Fl K.T K.M)} {x : K.T c} {X : List aad} (hg : get H j = some (.gap c xs i e)) (he : get (del H j) e = some (.cells fs))
    (hl : atR K (asm K) (del (del H j) e) (K.vw c (K.df c)) fs = some (l, H1)) (hx : K.bk c l = some x) (s : Sat B w (dH K ρ H ++ X)) :
    Sat B w (acj K ρ e (.elt j i (K.sz c)) :: acj K ρ j (.row c (xs.set i.toNat x)) :: (dH K ρ H1 ++ X)) := by
  have s0 := s.imp (aaN (ρ := ρ) hg)
  have s1 : Sat B w (dH K ρ (del H j) ++ (acj K ρ j (.gap c xs i e) :: X)) := s0.perm (List.perm_middle (l₁ := dH K ρ (del H j))).symm
  obtain ⟨vs, s2⟩ := agY (s1.imp (aaN (ρ := ρ) he))
  have hlen := ai9 s2
  have s3 : Sat B w (fsS (fS K ρ) fs vs ++ (dH K ρ (del (del H j) e) ++ (pts (ρ.p e).1 (ρ.p e).2 vs :: acj K ρ j (.gap c xs i e) :: X))) := s2.perm (aaq fun f g h1 h2 h3 => by simp only [h1, h2, h3]; omega)
  have s4 := aix apU hl s3
  have hv : (K.vw c x).length = vs.length := by
    have e1 := K.bk_ok _ _ _ hx
    rw [e1]
    have := ai9 (A := fun _ => True) (abn s4 fun _ => trivial)
    exact this
  rw [K.sz_ok] at hv
  rw [← K.bk_ok _ _ _ hx] at s4
  have s5 : Sat B w (acj K ρ j (.gap c xs i e) :: ((pts (ρ.p e).1 (ρ.p e).2 vs :: fsS (pcS K) (K.vw c x) vs) ++ (dH K ρ H1 ++ X))) := s4.perm (aaq fun f g h1 h2 h3 => by simp only [h1, h2, h3]; omega)
  obtain ⟨h', Hh', j1, j2, a', e', ⟨b, o, vss, spare, N, hi, ⟨hA, hn, hq⟩, ⟨hvl, hvz⟩, ⟨hc1, hc2, hc3⟩, hperm, hst⟩, hL'⟩ := s5
  have s6 : Sat B w ((pts b o (vss.flatten.take (i.toNat * K.sz c)) :: pts b (o + i.toNat * K.sz c + K.sz c) (vss.flatten.drop (i.toNat * K.sz c + K.sz c) ++ spare) :: N) ++ ((pts (ρ.p e).1 (ρ.p e).2 vs :: fsS (pcS K) (K.vw c x) vs) ++ (dH K ρ H1 ++ X))) := ⟨h', Hh', aam.2 ⟨j1, j2, a', e', hst, hL'⟩⟩
  rw [hq] at s6
  have hlt : i.toNat < vss.length := by omega
  have hvs : vss[i.toNat]? = some vss[i.toNat] := List.getElem?_eq_getElem hlt
  have hfl := adM hvz
  have hlow : i.toNat * K.sz c + K.sz c ≤ vss.flatten.length := by
    rw [hfl]
    have : (i.toNat + 1) * K.sz c ≤ vss.length * K.sz c := Nat.mul_le_mul_right _ hlt
    rw [Nat.add_mul] at this; omega
  have htl : (vss.flatten.take (i.toNat * K.sz c)).length = i.toNat * K.sz c := by rw [List.length_take]; omega
  have s7 : Sat B w (pts b (o + i.toNat * K.sz c) vs :: pts b (o + i.toNat * K.sz c + K.sz c) (vss.flatten.drop (i.toNat * K.sz c + K.sz c) ++ spare) :: (pts b o (vss.flatten.take (i.toNat * K.sz c)) :: (fsS (pcS K) (K.vw c x) vs ++ N) ++ (dH K ρ H1 ++ X))) := s6.perm (aaq fun f g h1 h2 h3 => by simp only [h1, h2, h3]; omega)
  have s8 := s7.imp (amG (by rw [← hv]))
  have s9 := (s8.perm (List.Perm.swap ..)).imp (amG (by rw [htl]))
  have e2 : vss.flatten.take (i.toNat * K.sz c) ++ (vs ++ (vss.flatten.drop (i.toNat * K.sz c + K.sz c) ++ spare)) = (vss.set i.toNat vs).flatten ++ spare := by
    have := aij (o := 0) (us := vs) hvz hvs (by omega)
    have e3 : (vss[i.toNat]).take 0 ++ vs ++ (vss[i.toNat]).drop (0 + vs.length) = vs := by
      have := hvz _ (List.getElem_mem hlt)
      rw [List.drop_eq_nil_of_le (by omega)]; simp
    rw [e3, Nat.add_zero, ← hv] at this
    rw [this]; simp only [List.append_assoc]
  rw [e2] at s9
  have s10 : Sat B w ((pts b o ((vss.set i.toNat vs).flatten ++ spare) :: acg K (pcS K) c (xs.set i.toNat x) (vss.set i.toNat vs)) ++ (dH K ρ H1 ++ X)) := s9.perm (List.Perm.cons _ ((hperm x vs).symm.append_right _))
  have hz2 : ∀ v ∈ vss.set i.toNat vs, v.length = K.sz c := fun v hv' => by
    rcases List.mem_or_eq_of_mem_set hv' with e | e
    · exact hvz v e
    · rw [e, ← hv]
  have s11 : Sat B w (acj K ρ j (.row c (xs.set i.toNat x)) :: (dH K ρ H1 ++ X)) := by
    refine ahs (fun k hk => ?_) s10
    obtain ⟨q1, q2, qa, qe, g1, g2⟩ := hk
    refine ⟨by rw [List.length_set]; exact hn, ade.2 ⟨vss.set i.toNat vs, q1, q2, qa, qe, ⟨?_, ?_, hc2, .inr ⟨b, o, spare, hA, ?_, g1⟩⟩, g2⟩⟩
    · rw [adM hz2, List.length_set, List.length_set, hvl]
    · rw [List.length_set]; exact hc1
    · rw [List.length_set]; exact hc3
  refine abn s11 fun k => ?_
  show auS ρ e j (K.sz c) i
  exact ⟨⟨hi.1, by rw [hn]; exact hi.2⟩, b, o, hA, hq⟩
end
section
variable (K : KT)
def roF : Fl K.T K.M → Bool
  | .ro .. => true
  | _ => false
def aHi : Fl K.T K.M → Bool
  | .row .. => true
  | _ => false
def aAo (H : KT.H K) (id : Nat) : Option (KT.H K) :=
  match get H id with
  | some (.elt j i sz) => match get H j with
    | some (.row c xs) => match Nat.beq sz (K.sz c) && ((K.vw c (K.df c)).any (aHi K) || (Nat.ble 2 sz && (K.vw c (K.df c)).any (roF K))) with
      | true => some ((id, .cells ((K.vw c (atL (K.df c) xs i)).map .f)) :: (j, .gap c xs i id) :: del (del H j) id)
      | false => none
    | _ => none
  | _ => none
def av2 (H : KT.H K) (j : Nat) : Option (KT.H K) :=
  match get H j with
  | some (.gap c xs i e) => match get (del H j) e with
    | some (.cells fs) => match atR K (asm K) (del (del H j) e) (K.vw c (K.df c)) fs with
      | some (l, H1) => match K.bk c l with
        | some x => some ((e, .elt j i (K.sz c)) :: (j, .row c (xs.set i.toNat x)) :: H1)
        | none => none
      | none => none
    | _ => none
  | _ => none
def aDo : KT.H K → List Nat
  | [] => []
  | p :: H => match p.2 with
    | .gap .. => p.1 :: aDo H
    | _ => aDo H
def aqC : List Nat → KT.H K → KT.H K
  | [], H => H
  | j :: l, H => match av2 K H j with
    | some H' => aqC l H'
    | none => aqC l H
def aF7 (H : KT.H K) : KT.H K := aqC K (aDo K H) H
def aAH : KT.H K → List Nat
  | [] => []
  | p :: H => match p.2 with
    | .gap c .. => match (K.ls 3 c).isSome || (K.ls 1 c).isSome with
      | true => aAH H
      | false => p.1 :: aAH H
    | _ => aAH H
def aHf (H : KT.H K) : KT.H K := aqC K (aAH K H) H
def axX (H : KT.H K) (v : V) : Option (KT.H K) :=
  match v with
  | .ptr id _ => match aAo K H id with
    | some H1 => some H1
    | none => match get H id with
      | some (.elt j _ _) => match av2 K H j with
        | some H1 => aAo K H1 id
        | none => none
      | _ => none
  | _ => none
end
section
variable {K : KT} {B : Nat} {w : World} {ρ : Env} {X : List aad}
theorem avD {H H' : KT.H K} {id : Nat} (h : aAo K H id = some H') (s : Sat B w (dH K ρ H ++ X)) : Sat B w (dH K ρ H' ++ X) := by
  unfold aAo at h
  split at h
  · rename_i j i sz hel
    split at h
    · rename_i c xs hg
      split at h
      · rename_i hB
        cases h
        simp only [Bool.and_eq_true] at hB
        obtain rfl := Nat.eq_of_beq_eq_true hB.1
        have s1 := aAI hel hg s
        have s2 : Sat B w (dH K ρ (del H j) ++ (acj K ρ id (.cells ((K.vw c (atL (K.df c) xs i)).map .f)) :: acj K ρ j (.gap c xs i id) :: X)) := s1.perm (aaq fun f g h1 h2 h3 => by simp only [h1, h2, h3]; omega)
        have s3 := s2.imp (arR (id := id))
        exact s3.perm (aaq fun f g h1 h2 h3 => by simp only [dH, List.map_cons, h1, h2, h3]; omega)
      · cases h
    · cases h
  · cases h
theorem ats {H H' : KT.H K} {j : Nat} (h : av2 K H j = some H') (s : Sat B w (dH K ρ H ++ X)) : Sat B w (dH K ρ H' ++ X) := by
  unfold av2 at h
  split at h
  · rename_i c xs i e hg
    split at h
    · rename_i fs he
      split at h
      · rename_i l H1 hl
        split at h
        · rename_i x hx
          cases h
          exact aym hg he hl hx s
        · cases h
      · cases h
    · cases h
  · cases h
theorem amd : ∀ {l : List Nat} {H : KT.H K}, Sat B w (dH K ρ H ++ X) → Sat B w (dH K ρ (aqC K l H) ++ X)
  | [], _, s => s
  | j :: l, H, s => by
    unfold aqC
    split
    · rename_i H' h; exact amd (ats h s)
    · exact amd s
theorem ars {H H' : KT.H K} {v : V} (h : axX K H v = some H') (s : Sat B w (dH K ρ H ++ X)) : Sat B w (dH K ρ H' ++ X) := by
  unfold axX at h
  split at h
  · split at h
    · rename_i h1; cases h; exact avD h1 s
    · split at h
      · split at h
        · rename_i h1; exact avD h (ats h1 s)
        · cases h
      · cases h
  · cases h
theorem arX {H : KT.H K} (s : Sat B w (dH K ρ H ++ X)) : Sat B w (dH K ρ (aF7 K H) ++ X) := amd s
theorem aDN {H : KT.H K} (s : Sat B w (dH K ρ H ++ X)) : Sat B w (dH K ρ (aHf K H) ++ X) := amd s
end
end
end Go.Proofs.YteapeojalliebaaGreat
