/- Evaluation by itself: slices whose cells are known one by one. No program occurs here. Evaluation by itself: maps from numbers to functions with a bound object. No program occurs here. Evaluation by itself: slices of zero values of several cells. No program occurs here. Evaluation by itself: kinds by their shapes. No program occurs here. Evaluation by itself: data from values, values from data. No program occurs here. Evaluation by itself: an element of a row, taken out of it. No program occurs here. -/
import Derived.Test.YtkmkhldmflebkaaMzae
import Derived.Test.YtkmkhldmflebkaaMzab
import Derived.Test.YtkmkhldmflebkaaMzad
set_option linter.all false
namespace Go.Proofs.Ytkmkhldmflebkaa
section
open Go Go.RowKit
theorem amj {b o : Nat} {xs ys : List Value} {h k : Hp} (a : apart h k) (p : pts b o xs h) (q : pts b (o + xs.length) ys k) : pts b o (xs ++ ys) (abO h k) := fun i v hi => by
  rcases Nat.lt_or_ge i xs.length with hl | hl
  · rw [List.getElem?_append_left hl] at hi
    unfold abO; rw [p i v hi]
  · rw [List.getElem?_append_right hl] at hi
    have := q (i - xs.length) v hi
    rw [show o + xs.length + (i - xs.length) = o + i by omega] at this
    rw [ahB a]
    unfold abO; rw [this]
def hpL (b o : Nat) (h : Hp) : Hp := fun x y => if x = b ∧ y < o then h x y else none
def hpR (b o : Nat) (h : Hp) : Hp := fun x y => if x = b ∧ y < o then none else h x y
theorem aox (b o : Nat) (h : Hp) : apart (hpL b o h) (hpR b o h) ∧ h = abO (hpL b o h) (hpR b o h) := by
  refine ⟨fun x y => ?_, ?_⟩
  · by_cases hc : x = b ∧ y < o
    · exact .inr (.inl (by unfold hpR; rw [if_pos hc]))
    · exact .inl (by unfold hpL; rw [if_neg hc])
  · funext x y
    unfold abO hpL hpR
    by_cases hc : x = b ∧ y < o
    · rw [if_pos hc, if_pos hc]; cases h x y <;> rfl
    · rw [if_neg hc, if_neg hc]
theorem alA {b o : Nat} {xs ys : List Value} {L : List aag} {h : Hp} (s : aba ((fun k => pts b o (xs ++ ys) k) :: L) h) : aba (pts b o xs :: pts b (o + xs.length) ys :: L) h := by
  obtain ⟨k1, k2, a, e, hp, hL⟩ := s
  obtain ⟨p1, p2⟩ := afl hp
  obtain ⟨a1, e1⟩ := aox b (o + xs.length) k1
  have q1 : pts b o xs (hpL b (o + xs.length) k1) := fun i v hi => by
    have hl := (List.getElem?_eq_some_iff.1 hi).1
    unfold hpL; rw [if_pos ⟨rfl, by omega⟩]; exact p1 i v hi
  have q2 : pts b (o + xs.length) ys (hpR b (o + xs.length) k1) := fun i v hi => by
    unfold hpR; rw [if_neg (by omega)]; exact p2 i v hi
  rw [e1] at a e
  have a2 := (aaP a1).1 a
  refine ⟨_, abO (hpR b (o + xs.length) k1) k2, ?_, by rw [e, abX], q1, _, k2, a2.2, rfl, q2, hL⟩
  exact aao ((aaP a2.2).2 ⟨aao a1, aao a2.1⟩)
section
variable {K : KT}
def anR {T : Nat → Type} {M : Type} : List (Fd T M) → Option (List V)
  | [] => some []
  | .v x :: l => match anR l with
    | some xs => some (x :: xs)
    | none => none
  | .f _ :: _ => none
theorem akF {T : Nat → Type} {M : Type} : ∀ {l : List (Fd T M)} {vs : List V}, anR l = some vs → l = vs.map .v
  | [], vs, h => by cases h; rfl
  | .v x :: l, vs, h => by
    unfold anR at h
    split at h
    · rename_i xs hx; cases h; rw [akF hx]; rfl
    · cases h
  | .f _ :: _, _, h => by cases h
theorem ahE {ρ : Env} : ∀ {vs : List V} {us : List Value} {L : List aag} {h : Hp}, aba (fsS (fS K ρ) (vs.map .v) us ++ L) h → us = aak ρ vs ∧ aba L h
  | [], [], _, _, s => ⟨rfl, s⟩
  | v :: vs, u :: us, L, h, ⟨k1, k2, a, e, h1, h2⟩ => by
    have h1' : u = aap ρ v := h1
    obtain ⟨h3, h4⟩ := ahE h2
    refine ⟨by rw [h1', h3]; rfl, ?_⟩
    have s : aba (fS K ρ (.v v) u :: (fsS (fS K ρ) (vs.map .v) us ++ L)) h := ⟨k1, k2, a, e, h1, h2⟩
    exact (ahE (Ent.drop h s)).2
  | [], _ :: _, _, _, ⟨_, _, _, _, hf, _⟩ => hf.elim
  | _ :: _, [], _, _, ⟨_, _, _, _, hf, _⟩ => hf.elim
theorem anY {ρ : Env} {B : Nat} {w : World} {H : KT.H K} {X : List aag} {id e m sz : Nat} {vs : List V} (s : Sat B w (dH K ρ H ++ X)) (hg : get H id = some (.slc e m sz)) (hg2 : get (del H id) e = some (.cells (vs.map .v))) (hl : vs.length = m * sz) :
    (ρ.s id).n = m ∧ Sat B w (acx (ρ.s id).a m (ρ.s id).c sz (aak ρ vs) :: (dH K ρ (del (del H id) e) ++ X)) := by
  have h1 := akM s hg
  refine ⟨h1.2, ?_⟩
  have s1 := s.imp (aaK (ρ := ρ) hg)
  obtain ⟨hh, Hh, k1, k2, a, e1, ⟨⟨c1, c2, c3, c4⟩, spare, c5, c6⟩, hL⟩ := s1
  have s2 : Sat B w (pts (ρ.p e).1 ((ρ.p e).2 + m * sz) spare :: (dH K ρ (del H id) ++ X)) := ⟨hh, Hh, k1, k2, a, e1, c6, hL⟩
  have s3 := (s2.perm (List.perm_middle (l₁ := dH K ρ (del H id))).symm).imp (aaK (ρ := ρ) hg2)
  obtain ⟨us, s4⟩ := adZ s3
  have s5 : Sat B w (fsS (fS K ρ) (vs.map .v) us ++ (pts (ρ.p e).1 (ρ.p e).2 us :: (dH K ρ (del (del H id) e) ++ (pts (ρ.p e).1 ((ρ.p e).2 + m * sz) spare :: X)))) := s4.perm (List.perm_middle (l₁ := fsS (fS K ρ) (vs.map .v) us)).symm
  obtain ⟨h6, Hh6, s6⟩ := s5
  obtain ⟨rfl, s7⟩ := ahE s6
  have s8 : aba (pts (ρ.p e).1 (ρ.p e).2 (aak ρ vs) :: pts (ρ.p e).1 ((ρ.p e).2 + m * sz) spare :: (dH K ρ (del (del H id) e) ++ X)) h6 := abh (List.Perm.cons _ (List.perm_middle (l₁ := dH K ρ (del (del H id) e)))) s7
  obtain ⟨j1, j2, ja, je, p1, j3, j4, ja2, je2, p2, jL⟩ := s8
  have hdl : (aak ρ vs).length = m * sz := by rw [aaJ, List.length_map, hl]
  subst je2
  have a3 := (aaP ja2).1 (aao ja)
  refine ⟨h6, Hh6, abO j1 j3, j4, ?_, by rw [je, abX], ⟨hdl, c3, c4, .inr ⟨_, _, spare, c1, c5, ?_⟩⟩, jL⟩
  · exact (aaP (aao a3.1)).2 ⟨aao a3.2, ja2⟩
  · exact amj (aao a3.1) p1 (by rw [hdl]; exact p2)
variable (K) in
def apM (H : KT.H K) (sz : Nat) : V → Option (Nat × List V × KT.H K)
  | .sl id => match get H id with
    | some (.slc e m sz') => match get (del H id) e with
      | some (.cells fs) => match anR fs with
        | some vs => match Nat.beq sz' sz && Nat.beq vs.length (m * sz) with
          | true => some (m, vs, del (del H id) e)
          | false => none
        | none => none
      | _ => none
    | _ => none
  | .c (.slice none 0 0) => some (0, [], H)
  | _ => none
theorem anZ {H : KT.H K} {sz : Nat} {x : V} {m : Nat} {vs : List V} {H1 : KT.H K} (h : apM K H sz x = some (m, vs, H1)) {ρ : Env} {B : Nat} {w : World} {X : List aag} (s : Sat B w (dH K ρ H ++ X)) :
    ∃ A cap, aap ρ x = .slice A m cap ∧ ac2 H1 ≤ ac2 H ∧ vs.length = m * sz ∧ Sat B w (acx A m cap sz (aak ρ vs) :: (dH K ρ H1 ++ X)) := by
  unfold apM at h
  split at h
  · rename_i id
    split at h
    · rename_i e m' sz' hg
      split at h
      · rename_i fs hg2
        split at h
        · rename_i us hv
          split at h
          · rename_i hB
            cases h
            simp only [Bool.and_eq_true] at hB
            obtain rfl := Nat.eq_of_beq_eq_true hB.1
            have hl := Nat.eq_of_beq_eq_true hB.2
            rw [akF hv] at hg2
            obtain ⟨h1, h2⟩ := anY s hg hg2 hl
            exact ⟨_, _, by rw [aap, h1], Nat.le_trans acN acN, hl, h2⟩
          · cases h
        · cases h
      · cases h
    · cases h
  · cases h
    exact ⟨none, 0, rfl, Nat.le_refl _, by simp, s.imp (aiS _)⟩
  · cases h
variable (K) in
def atl (P : Program) (R : aaM) (n : Nat) (Z H : KT.H K) (T T' : TypeId) (x y : V) : Option (Nat × KT.H K × V) :=
  match Nat.beq T T' with
  | true => match adY P T with
    | some E => match P.info? E with
      | some inf => match y with
        | .sl id2 => match get H id2 with
          | some (.arr m2 sz us) => match apM K (del H id2) sz x with
            | some (m, vs, H1) => match Nat.beq inf.size sz && aq6 inf.zero sz && Nat.blt 0 m2 && Nat.blt 0 sz && Nat.ble ((m + m2) * inf.bytes) 1000000 && Nat.ble (m + m2) 1000000 && (us.all (scV (del H id2)) && Nat.ble (aeq (vs ++ us)) n && aa9 K R n Z H && Nat.ble (ac2 H1) n) with
              | true => some (n + 2, (n, .slc (n + 1) (m + m2) sz) :: (n + 1, .cells ((vs ++ us).map .v)) :: H1, .sl n)
              | false => none
            | none => none
          | _ => none
        | _ => none
      | none => none
    | none => none
  | false => none
variable {P : Program} {nt n B : Nat} {W : World} {R : aaM} {Z H : KT.H K} {nx : Nat → KT.H K → V → Prop}
theorem apG {o : Oper} {T T' : TypeId} {x y : Operand} {u v : V} {n' : Nat} {H' : KT.H K} {r : V} (ho : o.op = .call ⟨.builtin .append, #[x, y], #[T, T']⟩) (hx : evO R x = some u) (hy : evO R y = some v) (h : atl K P R n Z H T T' u v = some (n', H', r)) (hn : nx n' H' r) :
    aco K P nt B W o R n Z H nx := fun F ρ a w s => by
  obtain ⟨d, op, ty, ps, af, g⟩ := o
  simp only at ho
  subst ho
  have ex := (aaA (ρ := ρ) hx).eval s.regs
  have ey := (aaA (ρ := ρ) hy).eval s.regs
  unfold atl at h
  split at h
  · rename_i hT
    obtain rfl := Nat.eq_of_beq_eq_true hT
    split at h
    · rename_i E hE
      split at h
      · rename_i inf hi
        split at h
        · rename_i id2
          split at h
          · rename_i m2 sz us hg2
            split at h
            · rename_i m vs H1 hr
              split at h
              · rename_i hB
                cases h
                simp only [Bool.and_eq_true, aa9] at hB
                obtain ⟨⟨⟨⟨⟨⟨b1, b2⟩, b3⟩, b4⟩, b5⟩, b6⟩, ⟨⟨b7, b8⟩, ⟨⟨b9, b10⟩, b11⟩⟩, b12⟩ := hB
                have b1' := Nat.eq_of_beq_eq_true b1
                obtain ⟨z, hz, hzsz⟩ := ail b2
                have b3' : 0 < m2 := Nat.le_of_ble_eq_true b3
                have b4' : 0 < sz := Nat.le_of_ble_eq_true b4
                have b5' := Nat.le_of_ble_eq_true b5
                have b6' := Nat.le_of_ble_eq_true b6
                have b8' := Nat.le_of_ble_eq_true b8
                have b10' := Nat.le_of_ble_eq_true b10
                have b12' := Nat.le_of_ble_eq_true b12
                obtain ⟨⟨a1, a2, a3⟩, s4⟩ := alk (X := tl K Z F ρ) s.sat hg2
                have hsc : (aak ρ us).all abA = true := by
                  rw [aaJ, List.all_map, List.all_eq_true]
                  intro q hq
                  exact alX (List.all_eq_true.1 b7 q hq) s4.drop
                have s5 : Sat B w (dH K ρ (del H id2) ++ (pts (ρ.p id2).1 (ρ.p id2).2 (aak ρ us) :: tl K Z F ρ)) := s4.perm (List.perm_middle (l₁ := dH K ρ (del H id2))).symm
                obtain ⟨A, cap, hdx, htop, hvl, s6⟩ := anZ hr s5
                have s7 : Sat B w (acx A m cap sz (aak ρ vs) :: pts (ρ.p id2).1 (ρ.p id2).2 (aak ρ us) :: (dH K ρ H1 ++ tl K Z F ρ)) := s6.perm (List.Perm.cons _ (List.perm_middle (l₁ := dH K ρ H1)))
                obtain ⟨A', cap', w', hrun, c1, c2, c3⟩ := agP (ty := ty) (c := m2) (W := W) (abe hE) ⟨inf, hi, hz, b1', rfl⟩ hzsz b4' s7 s.below s.lo (by rw [aaJ]; simpa using a2) hsc b3' (by unfold maxLen; omega) (by omega)
                have : (execOp a.eval ⟨d, .call ⟨.builtin .append, #[x, y], #[T, T]⟩, ty, ps, af, g⟩).run P w = .ok (.value (.slice A' (m + m2) cap')) w' := by
                  simp only [execOp, resolve, List.map_toArray, List.map_cons, List.map_nil, ex, ey, hdx, aap, a1]
                  simp only [invoke, builtin]
                  simp [hrun]
                rw [this]
                obtain ⟨r1, r2, r3, r4⟩ := acG c3 (List.mem_cons_self ..)
                have hA : ∃ b o, A' = some ⟨b, o, none⟩ := by
                  rcases r4 with ⟨_, r4⟩ | ⟨b, o, r4, _⟩
                  · omega
                  · exact ⟨b, o, r4⟩
                obtain ⟨b, o, rfl⟩ := hA
                let ρ' := (ρ.setP (n + 1) (b, o)).setS n ⟨some ⟨b, o, none⟩, m + m2, cap'⟩
                have ha : aat n ρ ρ' := ((aen ρ (n + 1) (b, o)).le (Nat.le_succ _)).trans (abk _ n _) (Nat.le_refl _)
                refine ⟨⟨ρ', n + 2, _, .sl n⟩, by simp [aap, ρ', Env.setS], ⟨ha, Nat.le_add_right _ 2, (aa1 ha R (Nat.le_of_ble_eq_true b9)).symm, hn⟩, c1, c2, ?_⟩
                have c4 : Sat B w' (acx (some ⟨b, o, none⟩) (m + m2) cap' sz (aak ρ vs ++ aak ρ us) :: (dH K ρ H1 ++ tl K Z F ρ)) := (c3.perm (List.Perm.swap ..)).drop
                refine c4.imp fun k hk => ?_
                obtain ⟨k1, k2, ka, ke, ⟨q1, q2, q3, q4⟩, hL⟩ := hk
                rcases q4 with ⟨q4, _⟩ | ⟨b', o', spare, q4, q5, q6⟩
                · cases q4
                · injection q4 with q4
                  injection q4 with q4a q4b
                  subst q4a q4b
                  have hall : aba ((fun k => pts b o ((aak ρ vs ++ aak ρ us) ++ spare) k) :: (dH K ρ H1 ++ tl K Z F ρ)) k := ⟨k1, k2, ka, ke, q6, hL⟩
                  have hsp := alA hall
                  rw [q1] at hsp
                  have e3 : dH K ρ H1 ++ tl K Z F ρ = dH K ρ' H1 ++ tl K Z F ρ' := by rw [abg ha H1 b12', abB b10' ha]
                  rw [e3] at hsp
                  have e4 : aak ρ vs ++ aak ρ us = aak ρ' (vs ++ us) := by rw [← agh, ab3 ha _ b8']
                  have hsw : aba (pts b (o + (m + m2) * sz) spare :: pts b o (aak ρ vs ++ aak ρ us) :: (dH K ρ' H1 ++ tl K Z F ρ')) k := ahk hsp
                  refine aaE (A' := aby K ρ' n (.slc (n + 1) (m + m2) sz)) (fun q hq => ⟨⟨by simp [ρ', Env.setS, Env.setP], by simp [ρ', Env.setS], by simp [ρ', Env.setS]; exact q2, by simp [ρ', Env.setS]; exact q3⟩, spare, by simp [ρ', Env.setS]; exact q5, by simpa [ρ', Env.setS, Env.setP] using hq⟩) (aa5 (fun q hq => ?_) hsw)
                  refine aaE (A' := aby K ρ' (n + 1) (.cells ((vs ++ us).map .v))) (fun q hq => ?_) hq
                  refine ⟨aak ρ' (vs ++ us), ?_⟩
                  rw [e4] at hq
                  have hq' : aba [pts b o (aak ρ' (vs ++ us))] q := ⟨q, fun _ _ => none, fun _ _ => .inr (.inl rfl), by funext x y; unfold abO; cases q x y <;> rfl, hq, trivial⟩
                  have hq2 := abh (List.Perm.symm (List.perm_append_comm (l₁ := fsS (fS K ρ') ((vs ++ us).map .v) (aak ρ' (vs ++ us))) (l₂ := [pts b o (aak ρ' (vs ++ us))])).symm) (aeB (K := K) hq')
                  have hq3 := abh (List.perm_append_comm (l₁ := fsS (fS K ρ') ((vs ++ us).map .v) (aak ρ' (vs ++ us)))) (aeB (K := K) hq')
                  simpa [ρ', Env.setS, Env.setP] using hq3
              · cases h
            · cases h
          · cases h
        · cases h
      · cases h
    · cases h
  · cases h
variable (K) in
def aq1 (P : Program) (R : aaM) (H : KT.H K) (T : TypeId) (x y : Operand) : Option ((Nat × Nat) × (Nat × Int × Nat) × IntKind) :=
  match evO R x with
  | some (.sl id) => match get H id with
    | some (.slc e m sz) => match adq P T with
      | some sz' => match Nat.beq sz' sz with
        | true => match evO R y with
          | some u => match afD u with
            | some (k, j, _) => some ((e, 0), (m, j, sz), k)
            | none => none
          | none => none
        | false => none
      | none => none
    | _ => none
  | _ => none
theorem amZ {ρ : Env} {T : TypeId} {x y : Operand} {id o len sz : Nat} {j : Int} {kk : IntKind} {X : List aag} {w0 : World} (h : aq1 K P R H T x y = some ((id, o), (len, j, sz), kk)) (s : Sat B w0 (dH K ρ H ++ X)) {a : Act} (r : Regs nt a (dR ρ R)) {i : Nat} (hi : i < len) (hj : j = ((i : Nat) : Int))
    {d : Option Tmp} {ty : TypeId} {ps : String} {af : Array Edge} {g : Option (Nat × Bool)} (w : World) : (execOp a.eval ⟨d, .indexAddr T x y, ty, ps, af, g⟩).run P w = .ok (.value (aap ρ (.ptr id (o + i * sz)))) w := by
  unfold aq1 at h
  split at h
  · rename_i id' hx
    split at h
    · rename_i e m sz' hg
      split at h
      · rename_i sz2 he
        split at h
        · rename_i hsz
          split at h
          · rename_i u hy
            split at h
            · rename_i k' j' l' hi'
              cases h
              obtain rfl := Nat.eq_of_beq_eq_true hsz
              have ex := aaA (ρ := ρ) hx
              have ey := abf (ρ := ρ) hy hi'
              obtain ⟨h1, h2⟩ := akM s hg
              simp only [aap, h1, h2] at ex
              have := aet (P := P) (n := nt) (d := d) (ty := ty) (ps := ps) (af := af) (g := g) (i := i) (o' := (ρ.p id).2 + (0 + i * sz2)) ex ey hj hi he (by omega)
              exact this a w r
            · cases h
          · cases h
        · cases h
      · cases h
    · cases h
  · cases h
theorem aoF {ρ : Env} {T : TypeId} {x y : Operand} {q : Nat × Nat} {len sz : Nat} {j : Int} {kk : IntKind} (h : aq1 K P R H T x y = some (q, (len, j, sz), kk)) : ∃ u, evO R y = some u ∧ aap ρ u = .int kk j := by
  unfold aq1 at h
  split at h
  · split at h
    · split at h
      · split at h
        · split at h
          · rename_i u hy
            split at h
            · rename_i hi
              cases h; exact ⟨u, hy, aeA hi⟩
            · cases h
          · cases h
        · cases h
      · cases h
    · cases h
  · cases h
end
def arS (P : Program) (T : TypeId) : Option TypeId := match P.underlying T with
  | some (.map kt et) => match P.underlying kt with
    | some (.int .i64) => some et
    | _ => none
  | _ => none
theorem amB {P : Program} {T et : TypeId} (h : arS P T = some et) : ∃ kt, P.underlying T = some (.map kt et) ∧ P.underlying kt = some (.int .i64) := by
  unfold arS at h
  split at h
  · rename_i kt e h1
    split at h
    · rename_i h2; cases h; exact ⟨kt, h1, h2⟩
    · cases h
  · cases h
section
variable (K : KT)
def atI (l : List (Int × FuncId)) (o o' : Nat) : Bool := l.isEmpty || Nat.beq o o'
def asu (P : Program) (R : aaM) (n : Nat) (Z H : KT.H K) (op : Op) : Option (Nat × KT.H K × V) := match op with
  | .insert T x k v => match evO R x with
    | some (.mc id) => match get H id with
      | some (.fm l o) => match evO R k with
        | some (.l .i64 j) => match evO R v with
          | some (.bd f [.ptr o' 0]) => match atI l o o' with
            | true => match arS P T with
              | some _ => some (n, (id, .fm ((j, f) :: l) o') :: del H id, .c undef)
              | none => none
            | false => none
          | _ => none
        | _ => none
      | _ => none
    | _ => none
  | .makeMap T none => match arS P T with
    | some _ => match aa9 K R n Z H with
      | true => some (n + 1, (n, .fm [] 0) :: H, .mc n)
      | false => none
    | none => none
  | _ => none
def ala {α : Type} (j : Int) (z : Value) (o : Nat) (k : V → Option α) : List (Int × FuncId) → Option α
  | [] => k (.tup [.c z, .t false])
  | x :: l => if j = x.1 then k (.tup [.bd x.2 [.ptr o 0], .t true]) else ala j z o k l
def ate (P : Program) (R : aaM) (H : KT.H K) (T : TypeId) (x y : Operand) : Option ((List (Int × FuncId) × Nat) × Int × Value) := match evO R x with
  | some (.mc id) => match get H id with
    | some (.fm l o) => match evO R y with
      | some kv => match afD kv with
        | some (.i64, j, _) => match arS P T with
          | some et => match akD P et with
            | some z => some ((l, o), j, z)
            | none => none
          | none => none
        | _ => none
      | none => none
    | _ => none
  | _ => none
end
section
variable {K : KT} {P : Program} {nt n B : Nat} {W : World} {R : aaM} {Z H : KT.H K} {nx : Nat → KT.H K → V → Prop}
theorem aqp {p q : Value} : ∀ {l : List (Int × FuncId)}, l.isEmpty = true → fmF p l = fmF q l
  | [], _ => rfl
theorem ajG {α : Type} {j : Int} {z : Value} {o : Nat} {k : V → Option α} {out : α} {ρ : Env} : ∀ {l : List (Int × FuncId)}, ala j z o k l = some out → ∃ v, k v = some out ∧ aap ρ v = .tuple #[(fmF (aap ρ (.ptr o 0)) l j).getD z, .bool (fmF (aap ρ (.ptr o 0)) l j).isSome]
  | [], h => ⟨_, h, rfl⟩
  | x :: l, h => by
    unfold ala at h
    split at h
    · rename_i e
      refine ⟨_, h, ?_⟩
      simp only [fmF, if_pos e, aap, aak, Option.getD, Option.isSome]
    · rename_i e
      obtain ⟨v, h1, h2⟩ := ajG (ρ := ρ) h
      refine ⟨v, h1, h2.trans ?_⟩
      simp only [fmF, if_neg e]
theorem ar6 {ρ : Env} {id o : Nat} {l : List (Int × FuncId)} {w : World} {X : List aag} (hg : get H id = some (.fm l o)) (s : Sat B w (dH K ρ H ++ X)) :
    ∃ b es clock, ρ.v id = .map (some b) ∧ w.heap[b]? = some (.map es clock) ∧ ajR (fun v : Value => v) (fmF (aap ρ (.ptr o 0)) l) es.toList ∧ Sat B w (alQ b (.map es clock) :: (dH K ρ (del H id) ++ X)) := by
  have s1 := s.imp (aaK (ρ := ρ) hg)
  obtain ⟨h, Hh, k1, k2, a, e, hA, hL⟩ := s1
  obtain ⟨b, e1, es, clock, hr, ho⟩ := hA
  have s2 : Sat B w (alQ b (.map es clock) :: (dH K ρ (del H id) ++ X)) := ⟨h, Hh, k1, k2, a, e, ho, hL⟩
  exact ⟨b, es, clock, e1, s2.obj.2.1, hr, s2⟩
theorem amV {ρ : Env} {id b o : Nat} {l : List (Int × FuncId)} {es : Array MapEntry} {clock : Nat} {w : World} {X : List aag} {G : KT.H K} (he : ρ.v id = .map (some b)) (hr : ajR (fun v : Value => v) (fmF (aap ρ (.ptr o 0)) l) es.toList) (s : Sat B w (alQ b (.map es clock) :: (dH K ρ G ++ X))) :
    Sat B w (dH K ρ ((id, .fm l o) :: G) ++ X) := by
  obtain ⟨h, Hh, k1, k2, a, e, ho, hL⟩ := s
  exact ⟨h, Hh, k1, k2, a, e, ⟨b, he, es, clock, hr, ho⟩, hL⟩
theorem am0 {o : Oper} {n' : Nat} {H' : KT.H K} {v : V} (h : asu K P R n Z H o.op = some (n', H', v)) (hn : nx n' H' v) : aco K P nt B W o R n Z H nx := fun F ρ a w s => by
  obtain ⟨d, op, ty, ps, af, g⟩ := o
  simp only at h
  unfold asu at h
  split at h
  · rename_i T x k v0
    split at h
    · rename_i id hx
      split at h
      · rename_i l o hg
        split at h
        · rename_i j hk
          split at h
          · rename_i f o' hu
            split at h
            · rename_i hok
              split at h
              · rename_i et hT
                cases h
                have ex := (aaA (ρ := ρ) hx).eval s.regs
                have ek := (aaA (ρ := ρ) hk).eval s.regs
                have eu := (aaA (ρ := ρ) hu).eval s.regs
                obtain ⟨kt, t1, t2⟩ := amB hT
                obtain ⟨b, es, clock, e1, e2, hr, s2⟩ := ar6 hg s.sat
                have hm : fmF (aap ρ (.ptr o 0)) l = fmF (aap ρ (.ptr o' 0)) l := by
                  unfold atI at hok
                  rcases Bool.or_eq_true _ _ |>.mp hok with h1 | h1
                  · exact aqp h1
                  · rw [Nat.eq_of_beq_eq_true h1]
                rw [hm] at hr
                obtain ⟨es', clock', hp, hr'⟩ := an8 (k := j) (x := aap ρ (.bd f [.ptr o' 0])) t1 t2 e2 hr
                have : (execOp a.eval ⟨d, .insert T x k v0, ty, ps, af, g⟩).run P w = .ok .skip (w.putObj b (.map es' clock')) := by
                  have e3 : aap ρ (.mc id) = .map (some b) := by simp only [aap, e1]
                  have e4 : aap ρ (.l .i64 j) = .int .i64 j := by simp only [aap]
                  simp only [execOp, ex, ek, eu, e3, e4]
                  rw [aae hp]; rfl
                rw [this]
                obtain ⟨c1, c2, c3⟩ := Cls.putObj (o' := .map es' clock') ⟨s.below, s.lo, s2⟩ rfl
                exact ⟨⟨ρ, n, _, .c undef⟩, rfl, ⟨aat.refl _ _, Nat.le_refl _, rfl, hn⟩, c1, c2, amV e1 hr' c3⟩
              · cases h
            · cases h
          · cases h
        · cases h
      · cases h
    · cases h
  · rename_i T
    split at h
    · rename_i et hT
      split at h
      · rename_i hF
        cases h
        simp only [aa9, Bool.and_eq_true] at hF
        obtain ⟨⟨b1, b0⟩, b2⟩ := hF
        have b1' := Nat.le_of_ble_eq_true b1
        have b0' := Nat.le_of_ble_eq_true b0
        have b2' := Nat.le_of_ble_eq_true b2
        have : (execOp a.eval ⟨d, .makeMap T none, ty, ps, af, g⟩).run P w = .ok (.value (.map (some w.heap.size))) (w.alloc (.map #[] 0)) := by
          simp only [execOp, Option.map_none, Instr.makeMap]
          simp [newObj, Sem.run, World.alloc_eq]
        rw [this]
        have ha := agQ ρ n (.map (some w.heap.size))
        obtain ⟨c1, c2, c3⟩ := Cls.newObj (o := .map #[] 0) s.cls rfl
        refine ⟨⟨ρ.setV n (.map (some w.heap.size)), n + 1, _, .mc n⟩, by simp [aap, Env.setV], ⟨ha, Nat.le_succ _, (aa1 ha R b1').symm, hn⟩, c1, c2, ?_⟩
        have c4 : Sat B (w.alloc (.map #[] 0)) (alQ w.heap.size (.map #[] 0) :: (dH K (ρ.setV n (.map (some w.heap.size))) H ++ tl K Z F (ρ.setV n (.map (some w.heap.size))))) := by
          rw [← abg ha H b2', ← abB b0' ha]; exact c3
        exact amV (by simp [Env.setV]) ⟨fun e he => (by simp at he), by simp, fun k => rfl⟩ c4
      · cases h
    · cases h
  · cases h
theorem aqC {o : Oper} {T : TypeId} {x y : Operand} {l : List (Int × FuncId)} {q : Nat} {j : Int} {z : Value} (ho : o.op = .lookup T x y true) (h : ate K P R H T x y = some ((l, q), j, z)) (hn : ∀ ρ : Env, ∃ v, nx n H v ∧ aap ρ v = .tuple #[(fmF (aap ρ (.ptr q 0)) l j).getD z, .bool (fmF (aap ρ (.ptr q 0)) l j).isSome]) : aco K P nt B W o R n Z H nx := fun F ρ a w s => by
  obtain ⟨d, op, ty, ps, af, g⟩ := o
  simp only at ho
  subst ho
  unfold ate at h
  split at h
  · rename_i id hx
    split at h
    · rename_i l' o' hg
      split at h
      · rename_i kv hk
        split at h
        · rename_i j' _ hi
          split at h
          · rename_i et hT
            split at h
            · rename_i z' hz
              cases h
              have ex := (aaA (ρ := ρ) hx).eval s.regs
              have ek := (aaA (ρ := ρ) hk).eval s.regs
              obtain ⟨kt, t1, t2⟩ := amB hT
              obtain ⟨b, es, clock, e1, e2, hr, _⟩ := ar6 hg s.sat
              have hl := amE (k := j) (ok := true) t1 t2 (ag2 (w := w) hz) e2 hr.1
              obtain ⟨v, hv1, hv2⟩ := hn ρ
              have hf : adP j es.toList = fmF (aap ρ (.ptr q 0)) l j := by
                rw [hr.2.2 j]; cases fmF (aap ρ (.ptr q 0)) l j <;> rfl
              rw [hf, if_pos rfl, ← hv2] at hl
              have : (execOp a.eval ⟨d, .lookup T x y true, ty, ps, af, g⟩).run P w = .ok (.value (aap ρ v)) w := by
                simp only [execOp, ex, ek, aap, e1, aeA hi]
                rw [aae hl]; rfl
              rw [this]
              exact ⟨⟨ρ, n, H, v⟩, rfl, ⟨aat.refl _ _, Nat.le_refl _, rfl, hv1⟩, s.cls⟩
            · cases h
          · cases h
        · cases h
      · cases h
    · cases h
  · cases h
end
theorem aon {cs : Array Value} {k i : Nat} (h0 : 0 < cs.size) (hi : i < k) : (madeCells cs k).toList[i]? = cs.toList[i % cs.size]? := by
  have hm : i % cs.size < cs.size := Nat.mod_lt _ h0
  simp [madeCells, hi, hm]
theorem amb {l : List Value} (h0 : 0 < l.length) : ∀ {m i : Nat}, i < m * l.length → (List.replicate m l).flatten[i]? = l[i % l.length]?
  | 0, i, h => by rw [Nat.zero_mul] at h; omega
  | m + 1, i, h => by
    rw [List.replicate_succ, List.flatten_cons]
    by_cases hi : i < l.length
    · rw [List.getElem?_append_left hi, Nat.mod_eq_of_lt hi]
    · rw [List.getElem?_append_right (by omega), amb h0 (by rw [Nat.add_mul] at h; omega), Nat.mod_eq_sub_mod (by omega : i ≥ l.length)]
theorem amD {cs : Array Value} (h0 : 0 < cs.size) (m : Nat) : (madeCells cs (m * cs.size)).toList = (List.replicate m cs.toList).flatten := by
  have hl : ((List.replicate m cs.toList).flatten).length = m * cs.size := by simp
  have hl' : (madeCells cs (m * cs.size)).toList.length = m * cs.size := by simp [madeCells]
  apply List.ext_getElem?
  intro i
  by_cases hi : i < m * cs.size
  · rw [aon h0 hi, amb (l := cs.toList) (by simpa using h0) (by simpa using hi)]
    simp
  · rw [List.getElem?_eq_none (by omega), List.getElem?_eq_none (by omega)]
section
variable (K : KT)
def aoI : List (Fl K.T K.M) → List Value → Bool
  | [], [] => true
  | .i k x :: l, .int k' y :: vs => aje k k' && decide (x = 0) && decide (y = 0) && aoI l vs
  | .b x :: l, .bool y :: vs => (!x) && (!y) && aoI l vs
  | .row _ xs :: l, .slice none 0 0 :: vs => xs.isEmpty && aoI l vs
  | _, _ => false
def atb (P : Program) (R : aaM) (n : Nat) (Z H : KT.H K) (T : TypeId) (x y : V) : Option (List Gd × Nat × KT.H K × V) :=
  match adY P T with
  | some E => match K.tk E with
    | some c => match afD x with
      | some (_, a, _) => match afD y with
        | some (_, b, _) => match P.info? E with
          | some inf => match inf.zero with
            | some z => match aoI K (K.vw c (K.df c)) z.cells.toList && Nat.beq inf.size z.cells.size && Nat.beq (K.sz c) z.cells.size && Nat.blt 0 (K.sz c) && Nat.ble inf.bytes 128 && aa9 K R n Z H with
              | true => some ([⟨a = b, inferInstance⟩, ⟨0 ≤ a ∧ a ≤ 1099511627776, inferInstance⟩], n + 1, (n, .row c (List.replicate a.toNat (K.df c))) :: H, .sl n)
              | false => none
            | none => none
          | none => none
        | none => none
      | none => none
    | none => none
  | none => none
end
section
variable {K : KT} {P : Program} {nt n B : Nat} {W : World} {R R' : aaM} {Z H : KT.H K} {nx : Nat → KT.H K → V → Prop}
theorem aiR {L : List aag} {B : Nat} {w : World} (s : Sat B w L) : ∀ {l : List (Fl K.T K.M)} {vs : List Value}, aoI K l vs = true → Sat B w (fsS (pcS K) l vs ++ L)
  | [], [], _ => s
  | .i k x :: l, .int k' y :: vs, h => by
    simp only [aoI, Bool.and_eq_true, decide_eq_true_eq] at h
    obtain ⟨⟨⟨h1, h2⟩, h3⟩, h4⟩ := h
    have e := aes h1
    subst e h2 h3
    exact abb (p := pcS K (.i k 0) (.int k 0)) (aiR s h4) fun h => aaI.2 rfl
  | .b x :: l, .bool y :: vs, h => by
    simp only [aoI, Bool.and_eq_true, Bool.not_eq_true'] at h
    obtain ⟨⟨h1, h2⟩, h3⟩ := h
    subst h1 h2
    exact abb (p := pcS K (.b false) (.bool false)) (aiR s h3) fun h => aaI.2 rfl
  | .row c xs :: l, .slice none 0 0 :: vs, h => by
    simp only [aoI, Bool.and_eq_true] at h
    have e : xs = [] := List.isEmpty_iff.1 h.1
    subst e
    exact abb (p := pcS K (.row c []) (.slice none 0 0)) (aiR s h.2) fun h => aaI.2 ⟨none, 0, rfl, abL.2 ⟨[], aiS _ _ trivial⟩⟩
theorem ajj {c : Nat} {x0 : K.T c} {zs : List Value} (hz : aoI K (K.vw c x0) zs = true) {L : List aag} {B : Nat} {w : World} (s : Sat B w L) : ∀ m : Nat, Sat B w (abj K (pcS K) c (List.replicate m x0) (List.replicate m zs) ++ L)
  | 0 => s
  | m + 1 => by
    rw [List.replicate_succ, List.replicate_succ]
    simp only [abj, List.append_assoc]
    exact aiR (ajj hz s m) hz
theorem aoc {d : Option Tmp} {ty : TypeId} {ps : String} {af : Array Edge} {g : Option (Nat × Bool)} {T E : TypeId} {x y : Operand} {Q : abN} {L : List aag} {k k' : IntKind} {a : Int} {i : TypeInfo} {z : Value} (hx : EvalR Q x (.int k a)) (hy : EvalR Q y (.int k' a)) (hT : P.underlying T = some (.slice E)) (hi : P.info? E = some i) (hz1 : i.zero = some z) (hz2 : i.size = z.cells.size) (hz : 0 < z.cells.size) (h0 : 0 ≤ a) (h1 : a ≤ 1099511627776) (hby : i.bytes ≤ 128) :
    OT P nt B W ⟨d, .makeSlice T x y, ty, ps, af, g⟩ Q L (X := Nat) (fun b => .slice (some ⟨b, 0, none⟩) a.toNat a.toNat) (fun b => pts b 0 (List.replicate a.toNat z.cells.toList).flatten :: L) := fun ac w s => by
  have hr := run_make (P := P) w T E i z hT hi hz1 k k' a a h0 (Int.le_refl _) (by
    have : (i.bytes : Int) * a ≤ 128 * a := Int.mul_le_mul_of_nonneg_right (by omega) h0
    omega) (by omega)
  have : (execOp ac.eval ⟨d, .makeSlice T x y, ty, ps, af, g⟩).run P w = .ok (.value (.slice (some ⟨w.heap.size, 0, none⟩) a.toNat a.toNat)) (w.alloc (.cells (madeCells z.cells (a.toNat * i.size)) E)) := by
    simp only [execOp, hx.eval s.regs, hy.eval s.regs]
    rw [aae hr]; rfl
  rw [this]
  refine ⟨w.heap.size, rfl, ab4 s.below s.lo _, by simpa using Nat.le_succ_of_le s.lo, ?_⟩
  show Sat B _ (pts w.heap.size 0 (List.replicate a.toNat z.cells.toList).flatten :: L)
  rw [← amD hz, ← hz2]
  exact s.sat.fresh s.lo
theorem apB {o : Oper} {T : TypeId} {x y : Operand} {u v : V} {gs : List Gd} {n' : Nat} {H' : KT.H K} {r : V} (ho : o.op = .makeSlice T x y) (hx : evO R x = some u) (hy : evO R y = some v) (h : atb K P R n Z H T u v = some (gs, n', H', r)) (hg : ∀ g ∈ gs, g.P) (hn : nx n' H' r) :
    aco K P nt B W o R n Z H nx := fun F ρ a w s => by
  obtain ⟨d, op, ty, ps, af, g⟩ := o
  simp only at ho
  subst ho
  unfold atb at h
  split at h
  · rename_i E hE
    split at h
    · rename_i c hc
      split at h
      · rename_i k1 aa l1 hu
        split at h
        · rename_i k2 bb l2 hv
          split at h
          · rename_i inf hi
            split at h
            · rename_i z hz
              split at h
              · rename_i hB
                cases h
                simp only [Bool.and_eq_true, aa9] at hB
                obtain ⟨⟨⟨⟨⟨b1, b2⟩, b3⟩, b4⟩, b5⟩, ⟨⟨b7, b8⟩, b9⟩⟩ := hB
                have b2' := Nat.eq_of_beq_eq_true b2
                have b3' := Nat.eq_of_beq_eq_true b3
                have b4' : 0 < K.sz c := Nat.le_of_ble_eq_true b4
                have b8' := Nat.le_of_ble_eq_true b8
                obtain rfl : aa = bb := hg ⟨aa = bb, inferInstance⟩ (List.mem_cons_self ..)
                obtain ⟨g1, g2⟩ : 0 ≤ aa ∧ aa ≤ 1099511627776 := hg ⟨0 ≤ aa ∧ aa ≤ 1099511627776, inferInstance⟩ (List.mem_cons_of_mem _ (List.mem_cons_self ..))
                have hot := aoc (L := dS K ρ Z H F) (W := W) (B := B) (nt := nt) (d := d) (ty := ty) (ps := ps) (af := af) (g := g) (abf (ρ := ρ) hx hu) (abf (ρ := ρ) hy hv) (abe hE) hi hz b2' (by omega) g1 g2 (Nat.le_of_ble_eq_true b5) a w s
                revert hot
                generalize (execOp a.eval ⟨d, .makeSlice T x y, ty, ps, af, g⟩).run P w = res
                intro hot
                have hlen : z.cells.toList.length = K.sz c := by rw [Array.length_toList]; omega
                have fin : ∀ (b : Nat) (w' : World), Cls B W (pts b 0 (List.replicate aa.toNat z.cells.toList).flatten :: dS K ρ Z H F) w' → ∃ ρ', aat n ρ ρ' ∧ aap ρ' (.sl n) = .slice (some ⟨b, 0, none⟩) aa.toNat aa.toNat ∧ Cls B W (dS K ρ' Z ((n, .row c (List.replicate aa.toNat (K.df c))) :: H) F) w' := by
                  intro b w' hw'
                  have ha := abk ρ n ⟨some ⟨b, 0, none⟩, aa.toNat, aa.toNat⟩
                  refine ⟨ρ.setS n ⟨some ⟨b, 0, none⟩, aa.toNat, aa.toNat⟩, ha, by simp [aap, Env.setS], hw'.1, hw'.2.1, ?_⟩
                  have s1 := ajj b1 hw'.2.2 aa.toNat
                  have s2 : Sat B w' ((pts b 0 (List.replicate aa.toNat z.cells.toList).flatten :: abj K (pcS K) c (List.replicate aa.toNat (K.df c)) (List.replicate aa.toNat z.cells.toList)) ++ dS K ρ Z H F) := s1.perm (List.perm_middle (l₁ := abj K (pcS K) c (List.replicate aa.toNat (K.df c)) (List.replicate aa.toNat z.cells.toList)))
                  refine s2.imp fun h hk => ?_
                  obtain ⟨j1, j2, a'', e'', q1, q2⟩ := aan.1 hk
                  refine ⟨j1, j2, a'', e'', ⟨by simp [Env.setS], abL.2 ⟨List.replicate aa.toNat z.cells.toList, aaE (fun q hp => ?_) q1⟩⟩, ?_⟩
                  · simp only [Env.setS, if_true, List.length_replicate]
                    exact afR (by rw [ac6 (sz := K.sz c) (fun v hv => by rw [(List.mem_replicate.1 hv).2]; exact hlen), List.length_replicate]) (by unfold maxLen; omega) q hp
                  · rw [dS, abg ha H (Nat.le_of_ble_eq_true b9), abB b8' ha] at q2; exact q2
                cases res with
                | halt x w' => exact hot
                | ok x w' =>
                  cases x <;> first | exact hot | skip
                  case value u' =>
                    obtain ⟨b, rfl, hw'⟩ := hot
                    obtain ⟨ρ', ha, hd, hc'⟩ := fin b w' hw'
                    exact ⟨⟨ρ', n + 1, _, .sl n⟩, hd.symm, ⟨ha, Nat.le_succ _, (aa1 ha R (Nat.le_of_ble_eq_true b7)).symm, hn⟩, hc'⟩
                  case skip =>
                    obtain ⟨b, hb, hw'⟩ := hot
                    cases hb
                  case enter f args =>
                    refine hot.mono fun e w'' ⟨b, he, hw'⟩ => ?_
                    obtain ⟨ρ', ha, hd, hc'⟩ := fin b w'' hw'
                    exact ⟨⟨ρ', n + 1, _, .sl n⟩, by rw [he]; exact congrArg _ hd.symm, ⟨ha, Nat.le_succ _, (aa1 ha R (Nat.le_of_ble_eq_true b7)).symm, hn⟩, hc'⟩
              · cases h
            · cases h
          · cases h
        · cases h
      · cases h
    · cases h
  · cases h
end
inductive Sh where
  | i (k : IntKind)
  | b
  | own (c : Nat)
  | row (c : Nat)
  | ro (c : Nat)
  | rr (c : Nat)
  | mach
  | o
section
variable (T : Nat → Type) (M : Type)
def shT : Sh → Type
  | .i _ => Int
  | .b => Bool
  | .own c => T c
  | .row c => List (T c)
  | .ro c => List (T c)
  | .rr c => List (List (T c))
  | .mach => M
  | .o => Unit
def HL : List Sh → Type
  | [] => Unit
  | s :: l => shT T M s × HL l
def vw1 : (s : Sh) → shT T M s → Fl T M
  | .i k, x => .i k x
  | .b, x => .b x
  | .own c, x => .own c x
  | .row c, x => .row c x
  | .ro c, x => .ro c x
  | .rr c, x => .rr c x
  | .mach, x => .mach x
  | .o, _ => .o
def vwP : (l : List Sh) → HL T M l → List (Fl T M)
  | [], _ => []
  | s :: l, p => vw1 T M s p.1 :: vwP l p.2
def cst {F : Nat → Type} (c c' : Nat) (x : F c) : Option (F c') := if h : c = c' then some (h ▸ x) else none
theorem ale {F : Nat → Type} {c c' : Nat} {x : F c} {y : F c'} (h : cst c c' x = some y) : ∃ e : c = c', y = e ▸ x := by
  unfold cst at h
  split at h
  · rename_i e; cases h; exact ⟨e, rfl⟩
  · cases h
def atu : IntKind → IntKind → Bool
  | .i64, .i64 => true
  | .u64, .u64 => true
  | .u8, .u8 => true
  | _, _ => false
theorem aqS {k k' : IntKind} (h : atu k k' = true) : k = k' := by cases k <;> cases k' <;> first | rfl | cases h
def bk1 : (s : Sh) → Fl T M → Option (shT T M s)
  | .i k => fun f => match f with
    | .i k' x => match atu k' k with
      | true => some x
      | false => none
    | _ => none
  | .b => fun f => match f with
    | .b x => some x
    | _ => none
  | .own c => fun f => match f with
    | .own c' x => cst (F := T) c' c x
    | _ => none
  | .row c => fun f => match f with
    | .row c' x => cst (F := fun c => List (T c)) c' c x
    | _ => none
  | .ro c => fun f => match f with
    | .ro c' x => cst (F := fun c => List (T c)) c' c x
    | _ => none
  | .rr c => fun f => match f with
    | .rr c' x => cst (F := fun c => List (List (T c))) c' c x
    | _ => none
  | .mach => fun f => match f with
    | .mach x => some x
    | _ => none
  | .o => fun f => match f with
    | .o => some ()
    | _ => none
theorem anu {s : Sh} {f : Fl T M} {x : shT T M s} (h : bk1 T M s f = some x) : vw1 T M s x = f := by
  cases s with
  | i k =>
    cases f <;> first | (have h' : (none : Option (shT T M (.i k))) = some x := h; cases h'; done) | skip
    rename_i k' y
    have h' : (match atu k' k with | true => some y | false => none) = some x := h
    split at h'
    · rename_i e; cases h'; rw [aqS e]; rfl
    · cases h'
  | b =>
    cases f <;> first | (have h' : (none : Option (shT T M .b)) = some x := h; cases h'; done) | skip
    rename_i y
    have h' : some y = some x := h
    cases h'; rfl
  | own c =>
    cases f <;> first | (have h' : (none : Option (shT T M (.own c))) = some x := h; cases h'; done) | skip
    rename_i c' y
    obtain ⟨e, h2⟩ := ale (show cst (F := T) c' c y = some x from h)
    subst e; subst h2; rfl
  | row c =>
    cases f <;> first | (have h' : (none : Option (shT T M (.row c))) = some x := h; cases h'; done) | skip
    rename_i c' y
    obtain ⟨e, h2⟩ := ale (show cst (F := fun c => List (T c)) c' c y = some x from h)
    subst e; subst h2; rfl
  | ro c =>
    cases f <;> first | (have h' : (none : Option (shT T M (.ro c))) = some x := h; cases h'; done) | skip
    rename_i c' y
    obtain ⟨e, h2⟩ := ale (show cst (F := fun c => List (T c)) c' c y = some x from h)
    subst e; subst h2; rfl
  | rr c =>
    cases f <;> first | (have h' : (none : Option (shT T M (.rr c))) = some x := h; cases h'; done) | skip
    rename_i c' y
    obtain ⟨e, h2⟩ := ale (show cst (F := fun c => List (List (T c))) c' c y = some x from h)
    subst e; subst h2; rfl
  | mach =>
    cases f <;> first | (have h' : (none : Option (shT T M .mach)) = some x := h; cases h'; done) | skip
    rename_i y
    have h' : some y = some x := h
    cases h'; rfl
  | o =>
    cases f <;> first | (have h' : (none : Option (shT T M .o)) = some x := h; cases h'; done) | skip
    rfl
def bkP : (l : List Sh) → List (Fl T M) → Option (HL T M l)
  | [], [] => some ()
  | s :: l, f :: fs => match bk1 T M s f with
    | some x => match bkP l fs with
      | some p => some (x, p)
      | none => none
    | none => none
  | _, _ => none
theorem ant : ∀ {l : List Sh} {fs : List (Fl T M)} {p : HL T M l}, bkP T M l fs = some p → vwP T M l p = fs
  | [], [], p, _ => rfl
  | s :: l, f :: fs, p, h => by
    unfold bkP at h
    split at h
    · rename_i x hx
      split at h
      · rename_i q hq
        cases h
        show vw1 T M s x :: vwP T M l q = _
        rw [anu _ _ hx, ant hq]
      · cases h
    · cases h
  | [], _ :: _, _, h => by cases h
  | _ :: _, [], _, h => by cases h
theorem aq7 (s : Sh) (x : shT T M s) (u : Value) : vw1 T M s x ≠ .c u := by cases s <;> exact fun h => by cases h
theorem ao7 : ∀ (l : List Sh) (p : HL T M l), ∀ f ∈ vwP T M l p, ∀ u, f ≠ .c u
  | [], _, f, h, _ => by cases h
  | s :: l, p, f, h, u => by
    rcases List.mem_cons.1 (show f ∈ vw1 T M s p.1 :: vwP T M l p.2 from h) with e | e
    · subst e; exact aq7 T M s p.1 u
    · exact ao7 l p.2 f e u
theorem alS : ∀ {l : List Sh} {p : HL T M l}, (vwP T M l p).length = l.length
  | [], _ => rfl
  | s :: l, p => by
    show (vw1 T M s p.1 :: vwP T M l p.2).length = _
    rw [List.length_cons, alS, List.length_cons]
def arp : List Sh → Bool
  | [] => true
  | s :: l => match s with
    | .i _ => arp l
    | .b => arp l
    | _ => false
theorem aka : ∀ (l : List Sh) (p : HL T M l), arp l = true → afL (vwP T M l p) = true
  | [], _, _ => rfl
  | .i k :: l, p, h => aka l p.2 h
  | .b :: l, p, h => aka l p.2 h
  | .own _ :: _, _, h => by cases h
  | .row _ :: _, _, h => by cases h
  | .ro _ :: _, _, h => by cases h
  | .rr _ :: _, _, h => by cases h
  | .mach :: _, _, h => by cases h
  | .o :: _, _, h => by cases h
end
structure Shp where
  T : Nat → Type
  M : Type
  sh : Nat → List Sh
  to_ : (c : Nat) → T c → HL T M (sh c)
  of : (c : Nat) → HL T M (sh c) → T c
  ok : ∀ c p, to_ c (of c p) = p
  df : (c : Nat) → T c
  tid : Nat → TypeId
  tk : TypeId → Option Nat
  spl : M → Option (Σ c : Nat, T c)
  nilM : M
  nilM_ok : spl nilM = none
  mkM : (c : Nat) → T c → Option M
  mkM_ok : ∀ c x m, mkM c x = some m → spl m = some ⟨c, x⟩
  kd : TypeId → Option Nat
  kd_ok : ∀ t c, kd t = some c → tid c = t
  ls : (c c' : Nat) → Option (PLift (T c' = List (T c)))
  ls_ok : ∀ c c' h, ls c c' = some h → ∀ x, vwP T M (sh c') (to_ c' x) = [.ro c (h.down ▸ x)] ∨ (vwP T M (sh c') (to_ c' x) = [.row c (h.down ▸ x)] ∧ arp (sh c) = true ∧ 0 < (sh c).length)
abbrev Shp.kt (S : Shp) : KT where
  T := S.T
  M := S.M
  df := S.df
  sz := fun c => (S.sh c).length
  vw := fun c x => vwP S.T S.M (S.sh c) (S.to_ c x)
  bk := fun c l => (bkP S.T S.M (S.sh c) l).map (S.of c)
  bk_ok := fun c l x h => by
    simp only [Option.map_eq_some_iff] at h
    obtain ⟨p, hp, rfl⟩ := h
    rw [S.ok]; exact ant _ _ hp
  sz_ok := fun c x => alS _ _
  pl := fun c => arp (S.sh c)
  pl_ok := fun c h x => aka _ _ _ _ h
  nc := fun c x => ao7 _ _ _ _
  tid := S.tid
  tk := S.tk
  spl := S.spl
  nilM := S.nilM
  nilM_ok := S.nilM_ok
  mkM := S.mkM
  mkM_ok := S.mkM_ok
  kd := S.kd
  kd_ok := S.kd_ok
  ls := S.ls
  ls_ok := S.ls_ok
theorem aaq {α : Type _} {l m : List α} (h : ∀ (f : List α → Nat) (g : α → Nat), (∀ x y, f (x ++ y) = f x + f y) → (∀ a x, f (a :: x) = g a + f x) → f [] = 0 → f l = f m) : l.Perm m := by
  classical
  rw [List.perm_iff_count]
  intro a
  refine h (fun l => l.count a) (fun x => if x == a then 1 else 0) (fun x y => List.count_append) (fun b x => ?_) rfl
  simp only [List.count_cons]; omega
theorem ahi {T : Nat → Type} {M : Type} : ∀ l : List (Fl T M), af2 (l.map (Fd.f : Fl T M → Fd T M)) = 0
  | [] => rfl
  | _ :: l => by simp only [List.map_cons, af2, ahi l, ao8]; rfl
theorem aef {B : Nat} {w : World} {N L : List aag} {A : aag} (f : ∀ h, aba N h → A h) (s : Sat B w (N ++ L)) : Sat B w (A :: L) := by
  obtain ⟨h, Hh, hs⟩ := s
  obtain ⟨k1, k2, a, e, g1, g2⟩ := aan.1 hs
  exact ⟨h, Hh, k1, k2, a, e, f _ g1, g2⟩
section
variable (S : Shp)
def chL (n : Nat) : Option (Ch S.T S.M) → List (Nat × Ch S.T S.M)
  | none => []
  | some c => [(n, c)]
def opL : Nat → List (Fl S.T S.M) → List V × List (Nat × Ch S.T S.M)
  | _, [] => ([], [])
  | n, f :: l => ((opF S.kt.vw n (.f f)).1 :: (opL (n + 1) l).1, chL S n (opF S.kt.vw n (.f f)).2 ++ (opL (n + 1) l).2)
def dfS : (s : Sh) → shT S.T S.M s
  | .i _ => (0 : Int)
  | .b => false
  | .own c => S.df c
  | .row _ => []
  | .ro _ => []
  | .rr _ => []
  | .mach => S.nilM
  | .o => ()
def anD (H : S.kt.H) (s : Sh) (v : V) : Option (shT S.T S.M s × S.kt.H) :=
  match asm S.kt H (vw1 S.T S.M s (dfS S s)) v with
  | some (f, H') => match bk1 S.T S.M s f with
    | some x => some (x, H')
    | none => none
  | none => none
def roZ (Z : S.kt.H) (s : Sh) (v : V) : Option (shT S.T S.M s) :=
  match s with
  | .ro c => match v with
    | .sl id => match get Z id with
      | some (.ro c' xs) => agL c' c xs
      | _ => none
    | _ => none
  | _ => none
def asD (Z H : S.kt.H) (s : Sh) (v : V) : Option (shT S.T S.M s × S.kt.H) :=
  match anD S H s v with
  | some r => some r
  | none => match roZ S Z s v with
    | some x => some (x, H)
    | none => none
end
section
variable {S : Shp} {B : Nat} {w : World}
theorem dHa {ρ : Env} (H H' : List (Nat × Ch S.T S.M)) : dH S.kt ρ (H ++ H') = dH S.kt ρ H ++ dH S.kt ρ H' := by simp [dH]
theorem ahu {n : Nat} {f : Fl S.T S.M} {v : Value} {ρ : Env} {Y : List aag} {X : Env → List aag} (hX : ∀ ρ ρ', aat n ρ ρ' → X ρ = X ρ') (s : Sat B w (pcS S.kt f v :: (Y ++ X ρ))) :
    ∃ ρ', aat n ρ ρ' ∧ v = aap ρ' (opF S.kt.vw n (.f f)).1 ∧ Sat B w (Y ++ (dH S.kt ρ' (chL S n (opF S.kt.vw n (.f f)).2) ++ X ρ')) := by
  obtain ⟨h, Hh, k1, k2, a, e, hA, hL⟩ := s
  obtain ⟨ρ', ha, hv, hd⟩ := amw (K := S.kt) (ρ := ρ) (n := n) (f := .f f) (Nat.zero_le _) hA
  refine ⟨ρ', ha, hv, ?_⟩
  rw [hX ρ ρ' ha] at hL
  cases hc : (opF S.kt.vw n (.f f)).2 with
  | none =>
    have : Sat B w (pcS S.kt f v :: (Y ++ X ρ')) := ⟨h, Hh, k1, k2, a, e, hA, hL⟩
    exact this.imp Ent.drop
  | some c =>
    rw [hc] at hd
    have : Sat B w (aby S.kt ρ' n c :: (Y ++ X ρ')) := ⟨h, Hh, k1, k2, a, e, hd, hL⟩
    exact this.perm (List.perm_middle (l₁ := Y)).symm
theorem akt {n : Nat} {f : Fl S.T S.M} {ρ ρ' : Env} (h : aat (n + 1) ρ ρ') : dH S.kt ρ (chL S n (opF S.kt.vw n (.f f)).2) = dH S.kt ρ' (chL S n (opF S.kt.vw n (.f f)).2) := by
  cases hc : (opF S.kt.vw n (.f f)).2 with
  | none => rfl
  | some c =>
    have := (aeu (K := S.kt) (n := n) (f := .f f) (Nat.zero_le _)).2 c hc
    refine abg h _ ?_
    exact ahS ⟨ahS ⟨Nat.le_refl _, Nat.le_succ_of_le this⟩, Nat.zero_le _⟩
theorem af9 : ∀ {l : List (Fl S.T S.M)} {n : Nat} {ρ ρ' : Env}, aat (n + l.length) ρ ρ' → aak ρ (opL S n l).1 = aak ρ' (opL S n l).1 ∧ dH S.kt ρ (opL S n l).2 = dH S.kt ρ' (opL S n l).2
  | [], _, _, _, _ => ⟨rfl, rfl⟩
  | f :: l, n, ρ, ρ', a => by
    have a' : aat (n + 1 + l.length) ρ ρ' := a.le (by simp only [List.length_cons]; omega)
    obtain ⟨t3, t4⟩ := af9 a'
    have htop := (aeu (K := S.kt) (n := n) (f := .f f) (Nat.zero_le _)).1
    simp only [opL, aak, dHa]
    rw [aaX (a.le (by simp only [List.length_cons]; omega)) _ htop, t3, akt (a.le (by simp only [List.length_cons]; omega)), t4]
    exact ⟨rfl, rfl⟩
theorem amv : ∀ {l : List (Fl S.T S.M)} {n : Nat} {us : List Value} {ρ : Env} {Y : List aag} {X : Env → List aag}, (∀ ρ ρ', aat n ρ ρ' → X ρ = X ρ') → Sat B w (fsS (pcS S.kt) l us ++ (Y ++ X ρ)) →
    ∃ ρ', aat n ρ ρ' ∧ us = aak ρ' (opL S n l).1 ∧ Sat B w (Y ++ (dH S.kt ρ' (opL S n l).2 ++ X ρ'))
  | [], n, us, ρ, Y, X, hX, s => by
    have := ae4 (pc := pcS S.kt) (A := fun _ => True) (abb (p := fun _ => True) s fun _ => trivial)
    cases us with
    | nil => exact ⟨ρ, aat.refl _ _, rfl, s⟩
    | cons u us => cases this
  | f :: l, n, us, ρ, Y, X, hX, s => by
    have hlen := ae4 (pc := pcS S.kt) (A := fun _ => True) (abb (p := fun _ => True) s fun _ => trivial)
    cases us with
    | nil => cases hlen
    | cons u us =>
      obtain ⟨ρ1, a1, e1, s1⟩ := ahu (Y := fsS (pcS S.kt) l us ++ Y) (X := X) hX (by
        rw [List.append_assoc]; exact s)
      have hX1 : ∀ ρ ρ', aat (n + 1) ρ ρ' → (fun ρ => dH S.kt ρ (chL S n (opF S.kt.vw n (.f f)).2) ++ X ρ) ρ = (fun ρ => dH S.kt ρ (chL S n (opF S.kt.vw n (.f f)).2) ++ X ρ) ρ' := fun ρ ρ' h => by
        show _ ++ _ = _ ++ _
        rw [akt h, hX _ _ (h.le (Nat.le_succ n))]
      rw [List.append_assoc] at s1
      obtain ⟨ρ2, a2, e2, s2⟩ := amv (n := n + 1) (X := fun ρ => dH S.kt ρ (chL S n (opF S.kt.vw n (.f f)).2) ++ X ρ) hX1 s1
      have htop := (aeu (K := S.kt) (n := n) (f := .f f) (Nat.zero_le _)).1
      refine ⟨ρ2, a1.trans a2 (Nat.le_succ n), ?_, ?_⟩
      · simp only [opL, aak]
        rw [e1, ← e2, aaX a2 _ htop]
      · simp only [opL, dHa]
        refine s2.perm (List.Perm.append_left _ ?_)
        rw [List.append_assoc]
        exact ab2 _ _ _
theorem alE {n : Nat} {f : Fl S.T S.M} {X : Env → List aag} (hX : ∀ ρ ρ', aat n ρ ρ' → X ρ = X ρ') : ∀ ρ ρ', aat (n + 1) ρ ρ' → (fun ρ => dH S.kt ρ (chL S n (opF S.kt.vw n (.f f)).2) ++ X ρ) ρ = (fun ρ => dH S.kt ρ (chL S n (opF S.kt.vw n (.f f)).2) ++ X ρ) ρ' := fun ρ ρ' h => by
  show _ ++ _ = _ ++ _
  rw [akt h, hX _ _ (h.le (Nat.le_succ n))]
theorem ar2 {n m : Nat} {l : List (Fl S.T S.M)} (hm : l.length = m) {X : Env → List aag} (hX : ∀ ρ ρ', aat n ρ ρ' → X ρ = X ρ') : ∀ ρ ρ', aat (n + m) ρ ρ' → (fun ρ => dH S.kt ρ (opL S n l).2 ++ X ρ) ρ = (fun ρ => dH S.kt ρ (opL S n l).2 ++ X ρ) ρ' := fun ρ ρ' h => by
  subst hm
  show _ ++ _ = _ ++ _
  rw [(af9 h).2, hX _ _ (h.le (Nat.le_add_right ..))]
theorem aeJ {H H' : S.kt.H} {s0 : Sh} {v : V} {x : shT S.T S.M s0} (h : anD S H s0 v = some (x, H')) {ρ : Env} {X : List aag} (s : Sat B w (dH S.kt ρ H ++ X)) : Sat B w (pcS S.kt (vw1 S.T S.M s0 x) (aap ρ v) :: (dH S.kt ρ H' ++ X)) := by
  unfold anD at h
  split at h
  · rename_i f H1 hf
    split at h
    · rename_i y hy
      cases h
      rw [anu _ _ hy]
      exact ahO _ _ _ _ _ hf ρ X B w s
    · cases h
  · cases h
end
section
variable {S : Shp} {B : Nat} {w : World} {ρ : Env}
theorem apZ {id c : Nat} {xs : List (S.T c)} {H : S.kt.H} (hg : get H id = some (.ro c xs)) {X : List aag} (s : Sat B w (dH S.kt ρ H ++ X)) : Sat B w (pcS S.kt (.ro c xs) (aap ρ (.sl id)) :: (dH S.kt ρ H ++ X)) := by
  have hv := ae3 (K := S.kt) s (.inr hg)
  obtain ⟨h0, H0, t0⟩ := s
  refine ⟨h0, H0, ?_⟩
  obtain ⟨j1, j2, a1, e1, ⟨_, m2⟩, mL⟩ := aaK (ρ := ρ) hg h0 t0
  obtain ⟨p, hp, hΦ⟩ := m2
  have hpp : ∀ b o x, p b o = some x → (∃ v, x = .look v) ∧ h0 b o = some x := fun b o x hx => ⟨(hp b o x hx).1, by rw [e1]; unfold abO; rw [(hp b o x hx).2]⟩
  refine ⟨p, h0, fun b o => ?_, ?_, aaI.2 (show pcW S.kt (obS S.kt) (rwS S.kt) (.ro c xs) (aap ρ (.sl id)) p from ⟨_, _, hv, p, fun b o x hx => ⟨(hpp b o x hx).1, hx⟩, hΦ⟩), t0⟩
  · cases hpb : p b o with
    | none => exact .inl rfl
    | some x =>
      obtain ⟨⟨v, rfl⟩, h2⟩ := hpp b o x hpb
      exact .inr (.inr ⟨v, rfl, h2⟩)
  · funext b o
    unfold abO
    cases hpb : p b o with
    | none => rfl
    | some x => exact (hpp b o x hpb).2
theorem anz {Z H H' : S.kt.H} {s0 : Sh} {v : V} {x : shT S.T S.M s0} (h : asD S Z H s0 v = some (x, H')) {X : List aag} (s : Sat B w (dH S.kt ρ H ++ (dH S.kt ρ Z ++ X))) : Sat B w (pcS S.kt (vw1 S.T S.M s0 x) (aap ρ v) :: (dH S.kt ρ H' ++ (dH S.kt ρ Z ++ X))) := by
  unfold asD at h
  split at h
  · rename_i h1; cases h; exact aeJ h1 s
  · split at h
    · rename_i y hy
      cases h
      cases s0 with
      | ro c =>
        cases v with
        | sl id =>
          have hy' : (match get Z id with | some (.ro c' xs) => agL c' c xs | _ => none) = some x := hy
          cases hg : get Z id with
          | none => rw [hg] at hy'; exact absurd hy' (by simp)
          | some ch =>
            rw [hg] at hy'
            cases ch with
            | ro c' xs =>
              obtain ⟨e, h2⟩ := adr hy'
              subst e
              subst h2
              have s1 : Sat B w (dH S.kt ρ Z ++ (dH S.kt ρ H ++ X)) := s.perm (ab2 _ _ _)
              exact (apZ hg s1).perm (List.Perm.cons _ (ab2 _ _ _))
            | _ => exact absurd hy' (by simp)
        | _ => exact (by have hy' : (none : Option _) = some x := hy; cases hy')
      | _ => exact (by have hy' : (none : Option _) = some x := hy; cases hy')
    · cases h
end
section
variable {K : KT} {B : Nat} {w : World} {ρ : Env}
theorem aoz {H : KT.H K} {e j c : Nat} {i : Int} {xs : List (K.T c)} {X : List aag} (hel : get H e = some (.elt j i (K.sz c))) (hg : get H j = some (.row c xs)) (s : Sat B w (dH K ρ H ++ X)) :
    Sat B w (aby K ρ e (.cells ((K.vw c (atL (K.df c) xs i)).map .f)) :: aby K ρ j (.gap c xs i e) :: (dH K ρ (del H j) ++ X)) := by
  obtain ⟨hi, b, o2, hA, hp⟩ := ajJ s hel
  obtain ⟨hn, vss, h2, h3, s2⟩ := aeM s hg
  rw [hn] at hi
  have hxi := abV (d := K.df c) hi
  have hlt : i.toNat < vss.length := by omega
  have hvs : vss[i.toNat]? = some vss[i.toNat] := List.getElem?_eq_getElem hlt
  have hvl := h3 _ (List.getElem_mem hlt)
  obtain ⟨hh, Hh, k1, k2, a, e1, ⟨r1, r2, r3, r4⟩, hL⟩ := s2
  rcases r4 with ⟨r4, _⟩ | ⟨b', o', spare, hA', hsp, hpts⟩
  · rw [r4] at hA; cases hA
  · rw [hA] at hA'
    cases hA'
    obtain ⟨N, p1, p2⟩ := aeg (pc := pcS K) hxi hvs
    have hfl := acn h3
    have hlow : i.toNat * K.sz c + K.sz c ≤ vss.flatten.length := by
      rw [hfl]
      have : (i.toNat + 1) * K.sz c ≤ vss.length * K.sz c := Nat.mul_le_mul_right _ hlt
      rw [Nat.add_mul] at this; omega
    have hmid : (vss.flatten.drop (i.toNat * K.sz c)).take (K.sz c) = vss[i.toNat] := by
      apply List.ext_getElem?
      intro q
      by_cases hq : q < K.sz c
      · rw [List.getElem?_take_of_lt hq, List.getElem?_drop]
        rw [afs h3 hvs (v := (vss[i.toNat])[q]'(by omega)) (List.getElem?_eq_getElem _), List.getElem?_eq_getElem]
      · rw [List.getElem?_eq_none (by rw [List.length_take, List.length_drop]; omega), List.getElem?_eq_none (by omega)]
    have e2 : vss.flatten ++ spare = vss.flatten.take (i.toNat * K.sz c) ++ (vss[i.toNat] ++ (vss.flatten.drop (i.toNat * K.sz c + K.sz c) ++ spare)) := by
      rw [← hmid, ← List.drop_drop, ← List.append_assoc (List.take _ _), ← List.append_assoc, List.append_assoc (List.take (i.toNat * K.sz c) _), List.take_append_drop, List.take_append_drop]
    have t1 : Sat B w (pts b o2 (vss.flatten.take (i.toNat * K.sz c) ++ (vss[i.toNat] ++ (vss.flatten.drop (i.toNat * K.sz c + K.sz c) ++ spare))) :: (abj K (pcS K) c xs vss ++ (dH K ρ (del H j) ++ X))) := by
      rw [← e2]; exact ⟨hh, Hh, k1, k2, a, e1, hpts, hL⟩
    have t2 := t1.imp agz
    have htl : (vss.flatten.take (i.toNat * K.sz c)).length = i.toNat * K.sz c := by rw [List.length_take]; omega
    rw [htl] at t2
    have t3 := (t2.perm (List.Perm.swap ..)).imp agz
    rw [hvl] at t3
    have t4 : Sat B w ((pts b (o2 + i.toNat * K.sz c) vss[i.toNat] :: fsS (pcS K) (K.vw c (atL (K.df c) xs i)) vss[i.toNat]) ++ ((pts b o2 (vss.flatten.take (i.toNat * K.sz c)) :: pts b (o2 + i.toNat * K.sz c + K.sz c) (vss.flatten.drop (i.toNat * K.sz c + K.sz c) ++ spare) :: N) ++ (dH K ρ (del H j) ++ X))) := by
      refine t3.perm ?_
      simp only [List.cons_append]
      refine List.Perm.cons _ ?_
      refine (List.Perm.swap ..).trans ?_
      refine List.Perm.trans ?_ (List.perm_middle).symm
      refine List.Perm.cons _ ?_
      refine List.Perm.trans ?_ (List.perm_middle).symm
      refine List.Perm.cons _ ?_
      exact (p1.append_right _).trans (by rw [List.append_assoc])
    have t5 : Sat B w (aby K ρ e (.cells ((K.vw c (atL (K.df c) xs i)).map .f)) :: ((pts b o2 (vss.flatten.take (i.toNat * K.sz c)) :: pts b (o2 + i.toNat * K.sz c + K.sz c) (vss.flatten.drop (i.toNat * K.sz c + K.sz c) ++ spare) :: N) ++ (dH K ρ (del H j) ++ X))) := by
      refine aef (fun k hk => ⟨vss[i.toNat], ?_⟩) t4
      show aba (pts (ρ.p e).1 (ρ.p e).2 vss[i.toNat] :: fsS (fS K ρ) (List.map Fd.f (K.vw c (atL (K.df c) xs i))) vss[i.toNat]) k
      rw [hp, ahD (pcS K) (fS K ρ) (fun x v => rfl)]
      exact hk
    have t6 := t5.perm (List.perm_middle (l₁ := pts b o2 (vss.flatten.take (i.toNat * K.sz c)) :: pts b (o2 + i.toNat * K.sz c + K.sz c) (vss.flatten.drop (i.toNat * K.sz c + K.sz c) ++ spare) :: N) (l₂ := dH K ρ (del H j) ++ X)).symm
    have t7 : Sat B w (aby K ρ j (.gap c xs i e) :: (aby K ρ e (.cells ((K.vw c (atL (K.df c) xs i)).map .f)) :: (dH K ρ (del H j) ++ X))) := by
      refine aef (fun k hk => ?_) t6
      exact ⟨b, o2, vss, spare, N, hi, ⟨hA, hn, hp⟩, ⟨by omega, h3⟩, ⟨r2, r3, hsp⟩, fun x' vs' => p2 x' vs', hk⟩
    exact t7.perm (List.Perm.swap ..)
theorem amQ {H H1 : KT.H K} {e j c : Nat} {i : Int} {xs : List (K.T c)} {fs : List (Fd K.T K.M)} {l : List (Fl K.T K.M)} {x : K.T c} {X : List aag} (hg : get H j = some (.gap c xs i e)) (he : get (del H j) e = some (.cells fs))
    (hl : ajU K (asm K) (del (del H j) e) (K.vw c (K.df c)) fs = some (l, H1)) (hx : K.bk c l = some x) (s : Sat B w (dH K ρ H ++ X)) :
    Sat B w (aby K ρ e (.elt j i (K.sz c)) :: aby K ρ j (.row c (xs.set i.toNat x)) :: (dH K ρ H1 ++ X)) := by
  have s0 := s.imp (aaK (ρ := ρ) hg)
  have s1 : Sat B w (dH K ρ (del H j) ++ (aby K ρ j (.gap c xs i e) :: X)) := s0.perm (List.perm_middle (l₁ := dH K ρ (del H j))).symm
  obtain ⟨vs, s2⟩ := adZ (s1.imp (aaK (ρ := ρ) he))
  have hlen := ae4 s2
  have s3 : Sat B w (fsS (fS K ρ) fs vs ++ (dH K ρ (del (del H j) e) ++ (pts (ρ.p e).1 (ρ.p e).2 vs :: aby K ρ j (.gap c xs i e) :: X))) := s2.perm (aaq fun f g h1 h2 h3 => by simp only [h1, h2, h3]; omega)
  have s4 := aeI ahO hl s3
  have hv : (K.vw c x).length = vs.length := by
    have e1 := K.bk_ok _ _ _ hx
    rw [e1]
    have := ae4 (A := fun _ => True) (abb s4 fun _ => trivial)
    exact this
  rw [K.sz_ok] at hv
  rw [← K.bk_ok _ _ _ hx] at s4
  have s5 : Sat B w (aby K ρ j (.gap c xs i e) :: ((pts (ρ.p e).1 (ρ.p e).2 vs :: fsS (pcS K) (K.vw c x) vs) ++ (dH K ρ H1 ++ X))) := s4.perm (aaq fun f g h1 h2 h3 => by simp only [h1, h2, h3]; omega)
  obtain ⟨h', Hh', j1, j2, a', e', ⟨b, o, vss, spare, N, hi, ⟨hA, hn, hq⟩, ⟨hvl, hvz⟩, ⟨hc1, hc2, hc3⟩, hperm, hst⟩, hL'⟩ := s5
  have s6 : Sat B w ((pts b o (vss.flatten.take (i.toNat * K.sz c)) :: pts b (o + i.toNat * K.sz c + K.sz c) (vss.flatten.drop (i.toNat * K.sz c + K.sz c) ++ spare) :: N) ++ ((pts (ρ.p e).1 (ρ.p e).2 vs :: fsS (pcS K) (K.vw c x) vs) ++ (dH K ρ H1 ++ X))) := ⟨h', Hh', aan.2 ⟨j1, j2, a', e', hst, hL'⟩⟩
  rw [hq] at s6
  have hlt : i.toNat < vss.length := by omega
  have hvs : vss[i.toNat]? = some vss[i.toNat] := List.getElem?_eq_getElem hlt
  have hfl := acn hvz
  have hlow : i.toNat * K.sz c + K.sz c ≤ vss.flatten.length := by
    rw [hfl]
    have : (i.toNat + 1) * K.sz c ≤ vss.length * K.sz c := Nat.mul_le_mul_right _ hlt
    rw [Nat.add_mul] at this; omega
  have htl : (vss.flatten.take (i.toNat * K.sz c)).length = i.toNat * K.sz c := by rw [List.length_take]; omega
  have s7 : Sat B w (pts b (o + i.toNat * K.sz c) vs :: pts b (o + i.toNat * K.sz c + K.sz c) (vss.flatten.drop (i.toNat * K.sz c + K.sz c) ++ spare) :: (pts b o (vss.flatten.take (i.toNat * K.sz c)) :: (fsS (pcS K) (K.vw c x) vs ++ N) ++ (dH K ρ H1 ++ X))) := s6.perm (aaq fun f g h1 h2 h3 => by simp only [h1, h2, h3]; omega)
  have s8 := s7.imp (agA (by rw [← hv]))
  have s9 := (s8.perm (List.Perm.swap ..)).imp (agA (by rw [htl]))
  have e2 : vss.flatten.take (i.toNat * K.sz c) ++ (vs ++ (vss.flatten.drop (i.toNat * K.sz c + K.sz c) ++ spare)) = (vss.set i.toNat vs).flatten ++ spare := by
    have := aeD (o := 0) (us := vs) hvz hvs (by omega)
    have e3 : (vss[i.toNat]).take 0 ++ vs ++ (vss[i.toNat]).drop (0 + vs.length) = vs := by
      have := hvz _ (List.getElem_mem hlt)
      rw [List.drop_eq_nil_of_le (by omega)]; simp
    rw [e3, Nat.add_zero, ← hv] at this
    rw [this]; simp only [List.append_assoc]
  rw [e2] at s9
  have s10 : Sat B w ((pts b o ((vss.set i.toNat vs).flatten ++ spare) :: abj K (pcS K) c (xs.set i.toNat x) (vss.set i.toNat vs)) ++ (dH K ρ H1 ++ X)) := s9.perm (List.Perm.cons _ ((hperm x vs).symm.append_right _))
  have hz2 : ∀ v ∈ vss.set i.toNat vs, v.length = K.sz c := fun v hv' => by
    rcases List.mem_or_eq_of_mem_set hv' with e | e
    · exact hvz v e
    · rw [e, ← hv]
  have s11 : Sat B w (aby K ρ j (.row c (xs.set i.toNat x)) :: (dH K ρ H1 ++ X)) := by
    refine aef (fun k hk => ?_) s10
    obtain ⟨q1, q2, qa, qe, g1, g2⟩ := hk
    refine ⟨by rw [List.length_set]; exact hn, abL.2 ⟨vss.set i.toNat vs, q1, q2, qa, qe, ⟨?_, ?_, hc2, .inr ⟨b, o, spare, hA, ?_, g1⟩⟩, g2⟩⟩
    · rw [acn hz2, List.length_set, List.length_set, hvl]
    · rw [List.length_set]; exact hc1
    · rw [List.length_set]; exact hc3
  refine abb s11 fun k => ?_
  show akC ρ e j (K.sz c) i
  exact ⟨⟨hi.1, by rw [hn]; exact hi.2⟩, b, o, hA, hq⟩
end
section
variable (K : KT)
def roF : Fl K.T K.M → Bool
  | .ro .. => true
  | _ => false
def atZ : Fl K.T K.M → Bool
  | .row .. => true
  | _ => false
def aod (H : KT.H K) (id : Nat) : Option (KT.H K) :=
  match get H id with
  | some (.elt j i sz) => match get H j with
    | some (.row c xs) => match Nat.beq sz (K.sz c) && ((K.vw c (K.df c)).any (atZ K) || (Nat.ble 2 sz && (K.vw c (K.df c)).any (roF K))) with
      | true => some ((id, .cells ((K.vw c (atL (K.df c) xs i)).map .f)) :: (j, .gap c xs i id) :: del (del H j) id)
      | false => none
    | _ => none
  | _ => none
def ajL (H : KT.H K) (j : Nat) : Option (KT.H K) :=
  match get H j with
  | some (.gap c xs i e) => match get (del H j) e with
    | some (.cells fs) => match ajU K (asm K) (del (del H j) e) (K.vw c (K.df c)) fs with
      | some (l, H1) => match K.bk c l with
        | some x => some ((e, .elt j i (K.sz c)) :: (j, .row c (xs.set i.toNat x)) :: H1)
        | none => none
      | none => none
    | _ => none
  | _ => none
def aqo : KT.H K → List Nat
  | [] => []
  | p :: H => match p.2 with
    | .gap .. => p.1 :: aqo H
    | _ => aqo H
def aie : List Nat → KT.H K → KT.H K
  | [], H => H
  | j :: l, H => match ajL K H j with
    | some H' => aie l H'
    | none => aie l H
def asB (H : KT.H K) : KT.H K := aie K (aqo K H) H
def aoy : KT.H K → List Nat
  | [] => []
  | p :: H => match p.2 with
    | .gap c .. => match (K.ls 3 c).isSome || (K.ls 1 c).isSome with
      | true => aoy H
      | false => p.1 :: aoy H
    | _ => aoy H
def atJ (H : KT.H K) : KT.H K := aie K (aoy K H) H
def amq (H : KT.H K) (v : V) : Option (KT.H K) :=
  match v with
  | .ptr id _ => match aod K H id with
    | some H1 => some H1
    | none => match get H id with
      | some (.elt j _ _) => match ajL K H j with
        | some H1 => aod K H1 id
        | none => none
      | _ => none
  | _ => none
end
section
variable {K : KT} {B : Nat} {w : World} {ρ : Env} {X : List aag}
theorem ak0 {H H' : KT.H K} {id : Nat} (h : aod K H id = some H') (s : Sat B w (dH K ρ H ++ X)) : Sat B w (dH K ρ H' ++ X) := by
  unfold aod at h
  split at h
  · rename_i j i sz hel
    split at h
    · rename_i c xs hg
      split at h
      · rename_i hB
        cases h
        simp only [Bool.and_eq_true] at hB
        obtain rfl := Nat.eq_of_beq_eq_true hB.1
        have s1 := aoz hel hg s
        have s2 : Sat B w (dH K ρ (del H j) ++ (aby K ρ id (.cells ((K.vw c (atL (K.df c) xs i)).map .f)) :: aby K ρ j (.gap c xs i id) :: X)) := s1.perm (aaq fun f g h1 h2 h3 => by simp only [h1, h2, h3]; omega)
        have s3 := s2.imp (aiT (id := id))
        exact s3.perm (aaq fun f g h1 h2 h3 => by simp only [dH, List.map_cons, h1, h2, h3]; omega)
      · cases h
    · cases h
  · cases h
theorem ahM {H H' : KT.H K} {j : Nat} (h : ajL K H j = some H') (s : Sat B w (dH K ρ H ++ X)) : Sat B w (dH K ρ H' ++ X) := by
  unfold ajL at h
  split at h
  · rename_i c xs i e hg
    split at h
    · rename_i fs he
      split at h
      · rename_i l H1 hl
        split at h
        · rename_i x hx
          cases h
          exact amQ hg he hl hx s
        · cases h
      · cases h
    · cases h
  · cases h
theorem agj : ∀ {l : List Nat} {H : KT.H K}, Sat B w (dH K ρ H ++ X) → Sat B w (dH K ρ (aie K l H) ++ X)
  | [], _, s => s
  | j :: l, H, s => by
    unfold aie
    split
    · rename_i H' h; exact agj (ahM h s)
    · exact agj s
theorem aiF {H H' : KT.H K} {v : V} (h : amq K H v = some H') (s : Sat B w (dH K ρ H ++ X)) : Sat B w (dH K ρ H' ++ X) := by
  unfold amq at h
  split at h
  · split at h
    · rename_i h1; cases h; exact ak0 h1 s
    · split at h
      · split at h
        · rename_i h1; exact ak0 h (ahM h1 s)
        · cases h
      · cases h
  · cases h
theorem akr {H : KT.H K} (s : Sat B w (dH K ρ H ++ X)) : Sat B w (dH K ρ (asB K H) ++ X) := agj s
theorem aqO {H : KT.H K} (s : Sat B w (dH K ρ H ++ X)) : Sat B w (dH K ρ (atJ K H) ++ X) := agj s
end
end
end Go.Proofs.Ytkmkhldmflebkaa
