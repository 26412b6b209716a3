/- Evaluation by itself: calls by contracts. No program occurs here. Evaluation by itself: contracts in a row. No program occurs here. Evaluation by itself: slices that came in. No program occurs here. -/
import Derived.Test.YtpbkelpokpglaaaGreatQk
set_option linter.all false
namespace Go.Proofs.YtpbkelpokpglaaaGreat
section
open Go Go.RowKit
inductive RemC (T : Nat → Type) (M : Type) (c : Nat) where
  | cells (id : Nat) (pre post : List (Fd T M))
  | elt (j : Nat) (i : Int) (xs : List (T c))
section
variable (S : Shp)
/-- An object is lent. -/
def absRef (H : S.kt.H) (c : Nat) (v : V) : Option (S.T c × S.kt.H × RemC S.T S.M c) :=
  match v with
  | .ptr id o => match get H id with
    | some (.cells fs) => match Nat.ble (o + S.kt.sz c) fs.length with
      | true => match asmL S.kt (asm S.kt) (del H id) (S.kt.vw c (S.kt.df c)) ((fs.drop o).take (S.kt.sz c)) with
        | some (l, H1) => match S.kt.bk c l with
          | some x => some (x, H1, .cells id (fs.take o) (fs.drop (o + S.kt.sz c)))
          | none => none
        | none => none
      | false => none
    | some (.elt j i sz) => match Nat.beq o 0 && Nat.beq sz (S.kt.sz c) with
      | true => match get H j with
        | some (.row c' xs) => match castL c' c xs with
          | some ys => some (atL (S.df c) ys i, del H j, .elt j i ys)
          | none => none
        | _ => none
      | false => none
    | _ => none
  | _ => none
def restRef (c : Nat) (x : S.T c) (H : S.kt.H) : RemC S.T S.M c → S.kt.H
  | .cells id pre post => (id, .cells (pre ++ ((S.kt.vw c x).map .f ++ post))) :: H
  | .elt j i xs => (j, .row c (xs.set i.toNat x)) :: H
def remS (ρ : Env) (c : Nat) : RemC S.T S.M c → SProp
  | .cells id pre post => fun h => ∃ us ws : List Value, us.length = pre.length ∧ star (pts (ρ.p id).1 (ρ.p id).2 us :: pts (ρ.p id).1 ((ρ.p id).2 + pre.length + S.kt.sz c) ws :: (fsS (fS S.kt ρ) pre us ++ fsS (fS S.kt ρ) post ws)) h
  | .elt j i xs => fun h => ∃ (b o : Nat) (vss : List (List Value)) (spare : List Value) (N : List SProp), (0 ≤ i ∧ i < (xs.length : Int)) ∧ ((ρ.s j).a = some ⟨b, o, none⟩ ∧ (ρ.s j).n = xs.length) ∧ (vss.length = xs.length ∧ ∀ v ∈ vss, v.length = S.kt.sz c) ∧
      (xs.length ≤ (ρ.s j).c ∧ (ρ.s j).c ≤ maxLen ∧ spare.length = ((ρ.s j).c - xs.length) * S.kt.sz c) ∧ (∀ x' vs', (rwsS S.kt (pcS S.kt) c (xs.set i.toNat x') (vss.set i.toNat vs')).Perm (fsS (pcS S.kt) (S.kt.vw c x') vs' ++ N)) ∧
      star (pts b o (vss.flatten.take (i.toNat * S.kt.sz c)) :: pts b (o + i.toNat * S.kt.sz c + S.kt.sz c) (vss.flatten.drop (i.toNat * S.kt.sz c + S.kt.sz c) ++ spare) :: N) h
def remAddr (ρ : Env) (c : Nat) : RemC S.T S.M c → Nat × Nat
  | .cells id pre _ => ((ρ.p id).1, (ρ.p id).2 + pre.length)
  | .elt j i _ => match (ρ.s j).a with
    | some a => (a.block, a.off + i.toNat * S.kt.sz c)
    | none => (0, 0)
end
section
variable {S : Shp} {B : Nat} {w : World} {ρ : Env}
theorem sat_exists {α : Type} {A : α → SProp} {L : List SProp} (s : Sat B w ((fun h => ∃ x, A x h) :: L)) : ∃ x, Sat B w (A x :: L) := by
  obtain ⟨h, Hh, k1, k2, a, e, ⟨x, hx⟩, hL⟩ := s
  exact ⟨x, h, Hh, k1, k2, a, e, hx, hL⟩
theorem sat_flat {N L : List SProp} (s : Sat B w (star N :: L)) : Sat B w (N ++ L) := by
  obtain ⟨h, Hh, k1, k2, a, e, hx, hL⟩ := s
  exact ⟨h, Hh, star_append.2 ⟨k1, k2, a, e, hx, hL⟩⟩
theorem sat_wrap {N L : List SProp} {A : SProp} (f : ∀ h, star N h → A h) (s : Sat B w (N ++ L)) : Sat B w (A :: L) := by
  obtain ⟨h, Hh, hs⟩ := s
  obtain ⟨k1, k2, a, e, g1, g2⟩ := star_append.1 hs
  exact ⟨h, Hh, k1, k2, a, e, f _ g1, g2⟩
theorem absRef_ok {H H1 : S.kt.H} {c : Nat} {v : V} {x : S.T c} {r : RemC S.T S.M c} (h : absRef S H c v = some (x, H1, r)) {X : List SProp} (s : Sat B w (dH S.kt ρ H ++ X)) :
    denV ρ v = .pointer (some ⟨(remAddr S ρ c r).1, (remAddr S ρ c r).2, none⟩) ∧ Sat B w (obS S.kt c x (remAddr S ρ c r) :: remS S ρ c r :: (dH S.kt ρ H1 ++ X)) := by
  unfold absRef at h
  split at h
  · rename_i id o
    split at h
    · rename_i fs hg
      split at h
      · rename_i hB
        split at h
        · rename_i l H2 hl
          split at h
          · rename_i y hy
            cases h
            have hle := Nat.le_of_ble_eq_true hB
            obtain ⟨vs, s1⟩ := sat_open (s.imp (ent_get (ρ := ρ) hg))
            have hlen := sat_len s1
            have hol : (fs.take o).length = o := by simp; omega
            refine ⟨by simp [denV, remAddr, hol], ?_⟩
            -- three parts
            have e1 : fsS (fS S.kt ρ) fs vs = fsS (fS S.kt ρ) (fs.take o) (vs.take o) ++ (fsS (fS S.kt ρ) ((fs.drop o).take (S.kt.sz c)) ((vs.drop o).take (S.kt.sz c)) ++ fsS (fS S.kt ρ) (fs.drop (o + S.kt.sz c)) (vs.drop (o + S.kt.sz c))) := by
              conv => lhs; rw [← List.take_append_drop o fs, ← List.take_append_drop o vs, fsS_app (by simp [hlen])]
              conv => lhs; arg 2; rw [← List.take_append_drop (S.kt.sz c) (fs.drop o), ← List.take_append_drop (S.kt.sz c) (vs.drop o), fsS_app (by simp [hlen]), List.drop_drop, List.drop_drop]
            have e2 : vs = vs.take o ++ ((vs.drop o).take (S.kt.sz c) ++ vs.drop (o + S.kt.sz c)) := by
              rw [← List.drop_drop, List.take_append_drop, List.take_append_drop]
            have s2 : Sat B w (pts (ρ.p id).1 (ρ.p id).2 (vs.take o ++ ((vs.drop o).take (S.kt.sz c) ++ vs.drop (o + S.kt.sz c))) :: (fsS (fS S.kt ρ) fs vs ++ (dH S.kt ρ (del H id) ++ X))) := by rw [← e2]; exact s1
            have s3 := s2.imp pts_two
            have hvo : (vs.take o).length = o := by simp; omega
            rw [hvo] at s3
            have s4 : Sat B w (pts (ρ.p id).1 ((ρ.p id).2 + o) ((vs.drop o).take (S.kt.sz c) ++ vs.drop (o + S.kt.sz c)) :: pts (ρ.p id).1 (ρ.p id).2 (vs.take o) :: (fsS (fS S.kt ρ) fs vs ++ (dH S.kt ρ (del H id) ++ X))) := s3.perm (List.Perm.swap ..)
            have s5 := s4.imp pts_two
            have hvm : ((vs.drop o).take (S.kt.sz c)).length = S.kt.sz c := by rw [List.length_take, List.length_drop]; omega
            rw [hvm, e1] at s5
            -- the middle is put together
            have s6 : Sat B w (fsS (fS S.kt ρ) ((fs.drop o).take (S.kt.sz c)) ((vs.drop o).take (S.kt.sz c)) ++ (dH S.kt ρ (del H id) ++ (pts (ρ.p id).1 ((ρ.p id).2 + o) ((vs.drop o).take (S.kt.sz c)) :: ((pts (ρ.p id).1 (ρ.p id).2 (vs.take o) :: pts (ρ.p id).1 ((ρ.p id).2 + o + S.kt.sz c) (vs.drop (o + S.kt.sz c)) :: (fsS (fS S.kt ρ) (fs.take o) (vs.take o) ++ fsS (fS S.kt ρ) (fs.drop (o + S.kt.sz c)) (vs.drop (o + S.kt.sz c)))) ++ X)))) := by
              refine s5.perm ?_
              refine List.Perm.symm ?_
              refine (perm3 _ _ _ _).trans (List.Perm.cons _ ?_)
              simp only [List.cons_append]
              refine (perm3 _ _ _ _).trans ?_
              refine List.Perm.trans (List.Perm.cons _ (perm3 _ _ _ _)) ?_
              refine (List.Perm.swap ..).trans (List.Perm.cons _ (List.Perm.cons _ ?_))
              simp only [List.append_assoc]
              -- mid ++ (H ++ (pre ++ (post ++ X)))  ~  pre ++ (mid ++ (post ++ (H ++ X)))
              refine (List.Perm.append_left _ (permS _ _ _)).trans ?_
              refine (permS _ _ _).trans (List.Perm.append_left _ (List.Perm.append_left _ (permS _ _ _)))
            have s7 := asmL_ok asm_ok hl s6
            have s8 : Sat B w ((pts (ρ.p id).1 ((ρ.p id).2 + o) ((vs.drop o).take (S.kt.sz c)) :: fsS (pcS S.kt) l ((vs.drop o).take (S.kt.sz c))) ++ ((pts (ρ.p id).1 (ρ.p id).2 (vs.take o) :: pts (ρ.p id).1 ((ρ.p id).2 + o + S.kt.sz c) (vs.drop (o + S.kt.sz c)) :: (fsS (fS S.kt ρ) (fs.take o) (vs.take o) ++ fsS (fS S.kt ρ) (fs.drop (o + S.kt.sz c)) (vs.drop (o + S.kt.sz c)))) ++ (dH S.kt ρ H1 ++ X))) := by
              refine s7.perm ?_
              refine (perm3 _ _ _ _).trans ?_
              simp only [List.cons_append]
              refine List.Perm.cons _ (List.Perm.append_left _ ?_)
              exact permS (dH S.kt ρ H1) (pts (ρ.p id).1 (ρ.p id).2 (vs.take o) :: pts (ρ.p id).1 ((ρ.p id).2 + o + S.kt.sz c) (vs.drop (o + S.kt.sz c)) :: (fsS (fS S.kt ρ) (fs.take o) (vs.take o) ++ fsS (fS S.kt ρ) (fs.drop (o + S.kt.sz c)) (vs.drop (o + S.kt.sz c)))) X
            refine sat_wrap (fun k hk => ?_) (?_ : Sat B w ((pts (ρ.p id).1 ((ρ.p id).2 + o) ((vs.drop o).take (S.kt.sz c)) :: fsS (pcS S.kt) l ((vs.drop o).take (S.kt.sz c))) ++ (remS S ρ c (.cells id (fs.take o) (fs.drop (o + S.kt.sz c))) :: (dH S.kt ρ H1 ++ X))))
            · refine obS_iff.2 ⟨(vs.drop o).take (S.kt.sz c), ?_⟩
              rw [S.kt.bk_ok _ _ _ hy]
              simpa [remAddr, hol] using hk
            · have s9 := s8.perm List.perm_append_comm
              rw [List.append_assoc] at s9
              have s10 := sat_wrap (A := remS S ρ c (.cells id (fs.take o) (fs.drop (o + S.kt.sz c)))) (fun k hk => ⟨vs.take o, vs.drop (o + S.kt.sz c), by rw [hvo, hol], by rw [hol]; exact hk⟩) s9
              refine s10.perm ?_
              refine List.Perm.symm ?_
              refine (List.perm_middle).trans (List.Perm.cons _ List.perm_append_comm)
          · cases h
        · cases h
      · cases h
    · rename_i j i sz hel
      split at h
      · rename_i hB
        split at h
        · rename_i c' xs hg
          split at h
          · rename_i ys hy
            cases h
            obtain ⟨rfl, rfl⟩ := castL_ok hy
            simp only [Bool.and_eq_true] at hB
            obtain rfl := Nat.eq_of_beq_eq_true hB.1
            obtain rfl := Nat.eq_of_beq_eq_true hB.2
            obtain ⟨hi, b, o2, hA, hp⟩ := elt_ok s hel
            obtain ⟨hn, vss, h2, h3, s2⟩ := row_at s hg
            rw [hn] at hi
            have hxi := atL_get (d := S.df c') hi
            have hlt : i.toNat < vss.length := by omega
            have hvs : vss[i.toNat]? = some vss[i.toNat] := List.getElem?_eq_getElem hlt
            have hvl := h3 _ (List.getElem_mem hlt)
            refine ⟨by simp [denV, remAddr, hA, hp], ?_⟩
            obtain ⟨hh, Hh, k1, k2, a, e, ⟨r1, r2, r3, r4⟩, hL⟩ := s2
            rcases r4 with ⟨r4, _⟩ | ⟨b', o', spare, hA', hsp, hpts⟩
            · rw [r4] at hA; cases hA
            · rw [hA] at hA'
              cases hA'
              obtain ⟨N, p1, p2⟩ := rwsS_turn (pc := pcS S.kt) hxi hvs
              have hfl := flatten_len h3
              have hlow : i.toNat * S.kt.sz c' + S.kt.sz c' ≤ vss.flatten.length := by
                rw [hfl]
                have : (i.toNat + 1) * S.kt.sz c' ≤ vss.length * S.kt.sz c' := Nat.mul_le_mul_right _ hlt
                rw [Nat.add_mul] at this; omega
              have hmid : (vss.flatten.drop (i.toNat * S.kt.sz c')).take (S.kt.sz c') = vss[i.toNat] := by
                apply List.ext_getElem?
                intro q
                by_cases hq : q < S.kt.sz c'
                · rw [List.getElem?_take_of_lt hq, List.getElem?_drop]
                  rw [flatten_at h3 hvs (v := (vss[i.toNat])[q]'(by omega)) (List.getElem?_eq_getElem _), List.getElem?_eq_getElem]
                · rw [List.getElem?_eq_none (by rw [List.length_take, List.length_drop]; omega), List.getElem?_eq_none (by omega)]
              have e2 : vss.flatten ++ spare = vss.flatten.take (i.toNat * S.kt.sz c') ++ (vss[i.toNat] ++ (vss.flatten.drop (i.toNat * S.kt.sz c' + S.kt.sz c') ++ spare)) := by
                rw [← hmid, ← List.drop_drop, ← List.append_assoc (List.take _ _), ← List.append_assoc, List.append_assoc (List.take (i.toNat * S.kt.sz c') _), List.take_append_drop, List.take_append_drop]
              have t1 : Sat B w (pts b o2 (vss.flatten.take (i.toNat * S.kt.sz c') ++ (vss[i.toNat] ++ (vss.flatten.drop (i.toNat * S.kt.sz c' + S.kt.sz c') ++ spare))) :: (rwsS S.kt (pcS S.kt) c' ys vss ++ (dH S.kt ρ (del H j) ++ X))) := by
                rw [← e2]; exact ⟨hh, Hh, k1, k2, a, e, hpts, hL⟩
              have t2 := t1.imp pts_two
              have htl : (vss.flatten.take (i.toNat * S.kt.sz c')).length = i.toNat * S.kt.sz c' := by rw [List.length_take]; omega
              rw [htl] at t2
              have t3 := (t2.perm (List.Perm.swap ..)).imp pts_two
              rw [hvl] at t3
              have t4 : Sat B w ((pts b (o2 + i.toNat * S.kt.sz c') vss[i.toNat] :: fsS (pcS S.kt) (S.kt.vw c' (atL (S.df c') ys i)) vss[i.toNat]) ++ ((pts b o2 (vss.flatten.take (i.toNat * S.kt.sz c')) :: pts b (o2 + i.toNat * S.kt.sz c' + S.kt.sz c') (vss.flatten.drop (i.toNat * S.kt.sz c' + S.kt.sz c') ++ spare) :: N) ++ (dH S.kt ρ (del H j) ++ X))) := by
                refine t3.perm ?_
                simp only [List.cons_append]
                refine List.Perm.cons _ ?_
                refine (List.Perm.swap ..).trans ?_
                refine List.Perm.trans ?_ (List.perm_middle).symm
                refine List.Perm.cons _ ?_
                refine List.Perm.trans ?_ (List.perm_middle).symm
                refine List.Perm.cons _ ?_
                exact (p1.append_right _).trans (by rw [List.append_assoc])
              refine sat_wrap (fun k hk => ?_) (?_ : Sat B w ((pts b (o2 + i.toNat * S.kt.sz c') vss[i.toNat] :: fsS (pcS S.kt) (S.kt.vw c' (atL (S.df c') ys i)) vss[i.toNat]) ++ (remS S ρ c' (.elt j i ys) :: (dH S.kt ρ (del H j) ++ X))))
              · refine obS_iff.2 ⟨vss[i.toNat], ?_⟩
                simpa [remAddr, hA] using hk
              · have s9 := t4.perm List.perm_append_comm
                rw [List.append_assoc] at s9
                have s10 := sat_wrap (A := remS S ρ c' (.elt j i ys)) (fun k hk => ⟨b, o2, vss, spare, N, hi, ⟨hA, hn⟩, ⟨h2.symm, h3⟩, ⟨r2, r3, hsp⟩, p2, hk⟩) s9
                refine s10.perm ?_
                refine List.Perm.symm ?_
                exact (List.perm_middle).trans (List.Perm.cons _ List.perm_append_comm)
          · cases h
        · cases h
      · cases h
    · cases h
  · cases h
theorem restRef_ok {H : S.kt.H} {c : Nat} {x : S.T c} {r : RemC S.T S.M c} {X : List SProp} (s : Sat B w (obS S.kt c x (remAddr S ρ c r) :: remS S ρ c r :: (dH S.kt ρ H ++ X))) : Sat B w (dH S.kt ρ (restRef S c x H r) ++ X) := by
  obtain ⟨h, Hh, k1, k2, a, e, hO, hL⟩ := s
  rw [obS_iff] at hO
  obtain ⟨vs, hO⟩ := hO
  have s1 : Sat B w ((pts (remAddr S ρ c r).1 (remAddr S ρ c r).2 vs :: fsS (pcS S.kt) (S.kt.vw c x) vs) ++ (remS S ρ c r :: (dH S.kt ρ H ++ X))) := ⟨h, Hh, star_append.2 ⟨k1, k2, a, e, hO, hL⟩⟩
  have hlen : (S.kt.vw c x).length = vs.length := sat_len s1
  rw [S.kt.sz_ok] at hlen
  have s2 : Sat B w (remS S ρ c r :: ((pts (remAddr S ρ c r).1 (remAddr S ρ c r).2 vs :: fsS (pcS S.kt) (S.kt.vw c x) vs) ++ (dH S.kt ρ H ++ X))) := s1.perm (perm_cnt fun f g h1 h2 h3 => by simp only [h1, h2, h3]; omega)
  cases r with
  | cells id pre post =>
    obtain ⟨us, s3⟩ := sat_exists (show Sat B w ((fun h => ∃ us, (fun us h => ∃ ws : List Value, us.length = pre.length ∧ star (pts (ρ.p id).1 (ρ.p id).2 us :: pts (ρ.p id).1 ((ρ.p id).2 + pre.length + S.kt.sz c) ws :: (fsS (fS S.kt ρ) pre us ++ fsS (fS S.kt ρ) post ws)) h) us h) :: ((pts ((ρ.p id).1) ((ρ.p id).2 + pre.length) vs :: fsS (pcS S.kt) (S.kt.vw c x) vs) ++ (dH S.kt ρ H ++ X))) from s2)
    obtain ⟨ws, s4⟩ := sat_exists s3
    obtain ⟨hu, s5⟩ : us.length = pre.length ∧ Sat B w (star (pts (ρ.p id).1 (ρ.p id).2 us :: pts (ρ.p id).1 ((ρ.p id).2 + pre.length + S.kt.sz c) ws :: (fsS (fS S.kt ρ) pre us ++ fsS (fS S.kt ρ) post ws)) :: ((pts ((ρ.p id).1) ((ρ.p id).2 + pre.length) vs :: fsS (pcS S.kt) (S.kt.vw c x) vs) ++ (dH S.kt ρ H ++ X))) := by
      obtain ⟨h', Hh', j1, j2, a', e', ⟨g1, g2⟩, hL'⟩ := s4
      exact ⟨g1, h', Hh', j1, j2, a', e', g2, hL'⟩
    have s6 := sat_flat s5
    have s7 : Sat B w (pts (ρ.p id).1 ((ρ.p id).2 + pre.length) vs :: pts (ρ.p id).1 ((ρ.p id).2 + pre.length + S.kt.sz c) ws :: (pts (ρ.p id).1 (ρ.p id).2 us :: (fsS (fS S.kt ρ) pre us ++ (fsS (pcS S.kt) (S.kt.vw c x) vs ++ fsS (fS S.kt ρ) post ws)) ++ (dH S.kt ρ H ++ X))) := s6.perm (perm_cnt fun f g h1 h2 h3 => by simp only [h1, h2, h3]; omega)
    have s8 := s7.imp (pts_one (by rw [← hlen]))
    have s9 := (s8.perm (List.Perm.swap ..)).imp (pts_one (by rw [hu]))
    refine sat_wrap (N := pts (ρ.p id).1 (ρ.p id).2 (us ++ (vs ++ ws)) :: (fsS (fS S.kt ρ) pre us ++ (fsS (pcS S.kt) (S.kt.vw c x) vs ++ fsS (fS S.kt ρ) post ws))) (fun k hk => ⟨us ++ (vs ++ ws), ?_⟩) s9
    show star (pts (ρ.p id).1 (ρ.p id).2 (us ++ (vs ++ ws)) :: fsS (fS S.kt ρ) (pre ++ ((S.kt.vw c x).map .f ++ post)) (us ++ (vs ++ ws))) k
    rw [fsS_app hu.symm, fsS_app (by rw [List.length_map, S.kt.sz_ok, hlen]), fsS_map (pcS S.kt) _ (fun x v => rfl)]
    exact hk
  | elt j i xs =>
    obtain ⟨h', Hh', j1, j2, a', e', ⟨b, o, vss, spare, N, hi, ⟨hA, hn⟩, ⟨hvl, hvz⟩, ⟨hc1, hc2, hc3⟩, hperm, hst⟩, hL'⟩ := s2
    have s3 : Sat B w ((pts b o (vss.flatten.take (i.toNat * S.kt.sz c)) :: pts b (o + i.toNat * S.kt.sz c + S.kt.sz c) (vss.flatten.drop (i.toNat * S.kt.sz c + S.kt.sz c) ++ spare) :: N) ++ ((pts (remAddr S ρ c (.elt j i xs)).1 (remAddr S ρ c (.elt j i xs)).2 vs :: fsS (pcS S.kt) (S.kt.vw c x) vs) ++ (dH S.kt ρ H ++ X))) := ⟨h', Hh', star_append.2 ⟨j1, j2, a', e', hst, hL'⟩⟩
    have hra : remAddr S ρ c (.elt j i xs) = (b, o + i.toNat * S.kt.sz c) := by simp [remAddr, hA]
    rw [hra] at s3
    have hlt : i.toNat < vss.length := by omega
    have hvs : vss[i.toNat]? = some vss[i.toNat] := List.getElem?_eq_getElem hlt
    have hfl := flatten_len hvz
    have hlow : i.toNat * S.kt.sz c + S.kt.sz c ≤ vss.flatten.length := by
      rw [hfl]
      have : (i.toNat + 1) * S.kt.sz c ≤ vss.length * S.kt.sz c := Nat.mul_le_mul_right _ hlt
      rw [Nat.add_mul] at this; omega
    have htl : (vss.flatten.take (i.toNat * S.kt.sz c)).length = i.toNat * S.kt.sz c := by rw [List.length_take]; omega
    have s4 : Sat B w (pts b (o + i.toNat * S.kt.sz c) vs :: pts b (o + i.toNat * S.kt.sz c + S.kt.sz c) (vss.flatten.drop (i.toNat * S.kt.sz c + S.kt.sz c) ++ spare) :: (pts b o (vss.flatten.take (i.toNat * S.kt.sz c)) :: (fsS (pcS S.kt) (S.kt.vw c x) vs ++ N) ++ (dH S.kt ρ H ++ X))) := s3.perm (perm_cnt fun f g h1 h2 h3 => by simp only [h1, h2, h3]; omega)
    have s5 := s4.imp (pts_one (by rw [← hlen]))
    have s6 := (s5.perm (List.Perm.swap ..)).imp (pts_one (by rw [htl]))
    have e2 : vss.flatten.take (i.toNat * S.kt.sz c) ++ (vs ++ (vss.flatten.drop (i.toNat * S.kt.sz c + S.kt.sz c) ++ spare)) = (vss.set i.toNat vs).flatten ++ spare := by
      have := flatten_set (o := 0) (us := vs) hvz hvs (by omega)
      have e3 : (vss[i.toNat]).take 0 ++ vs ++ (vss[i.toNat]).drop (0 + vs.length) = vs := by
        have := hvz _ (List.getElem_mem hlt)
        rw [List.drop_eq_nil_of_le (by omega)]; simp
      rw [e3, Nat.add_zero, ← hlen] at this
      rw [this]; simp only [List.append_assoc]
    rw [e2] at s6
    have s7 : Sat B w ((pts b o ((vss.set i.toNat vs).flatten ++ spare) :: rwsS S.kt (pcS S.kt) c (xs.set i.toNat x) (vss.set i.toNat vs)) ++ (dH S.kt ρ H ++ X)) := s6.perm (List.Perm.cons _ ((hperm x vs).symm.append_right _))
    refine sat_wrap (fun k hk => ?_) s7
    obtain ⟨q1, q2, qa, qe, g1, g2⟩ := hk
    refine ⟨by rw [List.length_set]; exact hn, rwS_iff.2 ⟨vss.set i.toNat vs, q1, q2, qa, qe, ⟨?_, ?_, hc2, .inr ⟨b, o, spare, hA, ?_, g1⟩⟩, g2⟩⟩
    · have hz2 : ∀ v ∈ vss.set i.toNat vs, v.length = S.kt.sz c := fun v hv => by
        rcases List.mem_or_eq_of_mem_set hv with e | e
        · exact hvz v e
        · rw [e, ← hlen]
      rw [flatten_len hz2, List.length_set, List.length_set, hvl]
    · rw [List.length_set]; exact hc1
    · rw [List.length_set]; exact hc3
end
section
variable (S : Shp)
def TupM : List Pk → Type
  | [] => Unit
  | .ref c :: l => RemC S.T S.M c × TupM l
  | .sh _ :: l => TupM l
  | .val _ :: l => TupM l
/-- The data of a call. -/
def absP (Z : S.kt.H) : (ps : List Pk) → S.kt.H → List V → Option (TupP S ps × S.kt.H × TupM S ps)
  | [], H, [] => some ((), H, ())
  | .sh s :: ps, H, v :: vs => match asmZ S Z H s v with
    | some (x, H1) => match absP Z ps H1 vs with
      | some (r, H2, m) => some ((x, r), H2, m)
      | none => none
    | none => none
  | .val c :: ps, H, v :: vs => match asmV S H c v with
    | some (x, H1) => match absP Z ps H1 vs with
      | some (r, H2, m) => some ((x, r), H2, m)
      | none => none
    | none => none
  | .ref c :: ps, H, v :: vs => match absRef S H c v with
    | some (x, H1, q) => match absP Z ps H1 vs with
      | some (r, H2, m) => some ((x, r), H2, (q, m))
      | none => none
    | none => none
  | _, _, _ => none
def restP : (ps : List Pk) → TupM S ps → TupO S ps → S.kt.H → S.kt.H
  | [], _, _, H => H
  | .sh _ :: ps, m, o, H => restP ps m o H
  | .val _ :: ps, m, o, H => restP ps m o H
  | .ref c :: ps, m, o, H => restRef S c o.1 (restP ps m.2 o.2 H) m.1
def remP (ρ : Env) : (ps : List Pk) → TupM S ps → List SProp
  | [], _ => []
  | .sh _ :: ps, m => remP ρ ps m
  | .val _ :: ps, m => remP ρ ps m
  | .ref c :: ps, m => remS S ρ c m.1 :: remP ρ ps m.2
/-- Where the lent objects lie. -/
def lentAt (ρ : Env) : (ps : List Pk) → TupM S ps → List Value → Prop
  | [], _, _ => True
  | .sh _ :: ps, m, _ :: vs => lentAt ρ ps m vs
  | .val _ :: ps, m, _ :: vs => lentAt ρ ps m vs
  | .ref c :: ps, m, v :: vs => v = .pointer (some ⟨(remAddr S ρ c m.1).1, (remAddr S ρ c m.1).2, none⟩) ∧ lentAt ρ ps m.2 vs
  | _ :: _, _, [] => False
end
section
variable {S : Shp} {B : Nat} {w : World} {ρ : Env}
theorem absP_ok {Z : S.kt.H} : ∀ {ps : List Pk} {H H' : S.kt.H} {vs : List V} {x : TupP S ps} {m : TupM S ps}, absP S Z ps H vs = some (x, H', m) → ∀ {X : List SProp}, Sat B w (dH S.kt ρ H ++ (dH S.kt ρ Z ++ X)) →
    lentAt S ρ ps m (denVs ρ vs) ∧ Sat B w (PreS S ps x (denVs ρ vs) ++ (remP S ρ ps m ++ (dH S.kt ρ H' ++ (dH S.kt ρ Z ++ X))))
  | [], H, H', [], x, m, h, X, s => by cases h; exact ⟨trivial, s⟩
  | [], _, _, _ :: _, _, _, h, _, _ => by cases h
  | .sh _ :: _, _, _, [], _, _, h, _, _ => by cases h
  | .val _ :: _, _, _, [], _, _, h, _, _ => by cases h
  | .ref _ :: _, _, _, [], _, _, h, _, _ => by cases h
  | .sh s0 :: ps, H, H', v :: vs, x, m, h, X, s => by
    unfold absP at h
    split at h
    · rename_i y H1 h1
      split at h
      · rename_i r H2 m' h2
        cases h
        have s1 := asmZ_ok h1 s
        obtain ⟨l, s2⟩ := absP_ok h2 (X := pcS S.kt (vw1 S.T S.M s0 y) (denV ρ v) :: X) (s1.perm (perm_cnt fun f g h1 h2 h3 => by simp only [h1, h2, h3]; omega))
        exact ⟨l, s2.perm (perm_cnt fun f g h1 h2 h3 => by simp only [h1, h2, h3, PreS, denVs, List.cons_append, remP]; omega)⟩
      · cases h
    · cases h
  | .val c :: ps, H, H', v :: vs, x, m, h, X, s => by
    unfold absP at h
    split at h
    · rename_i y H1 h1
      split at h
      · rename_i r H2 m' h2
        cases h
        have s1 := asmV_ok h1 s
        obtain ⟨l, s2⟩ := absP_ok h2 (X := valS S c y (denV ρ v) :: X) (s1.perm (perm_cnt fun f g h1 h2 h3 => by simp only [h1, h2, h3]; omega))
        exact ⟨l, s2.perm (perm_cnt fun f g h1 h2 h3 => by simp only [h1, h2, h3, PreS, denVs, List.cons_append, remP]; omega)⟩
      · cases h
    · cases h
  | .ref c :: ps, H, H', v :: vs, x, m, h, X, s => by
    unfold absP at h
    split at h
    · rename_i y H1 q h1
      split at h
      · rename_i r H2 m' h2
        cases h
        obtain ⟨hv, s1⟩ := absRef_ok h1 s
        have s1' : Sat B w (pcS S.kt (.own c y) (denV ρ v) :: remS S ρ c q :: (dH S.kt ρ H1 ++ (dH S.kt ρ Z ++ X))) := sat_head (fun k hk => pcS_iff.2 (show pcW S.kt (obS S.kt) (rwS S.kt) (.own c y) (denV ρ v) k from ⟨_, hv, hk⟩)) s1
        obtain ⟨l, s2⟩ := absP_ok h2 (X := pcS S.kt (.own c y) (denV ρ v) :: remS S ρ c q :: X) (s1'.perm (perm_cnt fun f g h1 h2 h3 => by simp only [h1, h2, h3]; omega))
        exact ⟨⟨hv, l⟩, s2.perm (perm_cnt fun f g h1 h2 h3 => by simp only [h1, h2, h3, PreS, denVs, List.cons_append, remP]; omega)⟩
      · cases h
    · cases h
theorem own_at {c : Nat} {x : S.T c} {q : Nat × Nat} {L : List SProp} (s : Sat B w (pcS S.kt (.own c x) (.pointer (some ⟨q.1, q.2, none⟩)) :: L)) : Sat B w (obS S.kt c x q :: L) := sat_head (fun k hk => by
  rw [pcS_iff] at hk
  obtain ⟨⟨a', b'⟩, e, h⟩ := hk
  obtain ⟨a, b⟩ := q
  cases e
  exact h) s
theorem restP_ok : ∀ {ps : List Pk} {H : S.kt.H} {m : TupM S ps} {o : TupO S ps} {vs : List Value} {X : List SProp}, lentAt S ρ ps m vs → Sat B w (PostS S ps o vs ++ (remP S ρ ps m ++ (dH S.kt ρ H ++ X))) → Sat B w (dH S.kt ρ (restP S ps m o H) ++ X)
  | [], H, m, o, vs, X, _, s => by cases vs <;> exact s
  | p :: _, _, _, _, [], _, l, _ => by cases p <;> exact l.elim
  | .sh _ :: ps, H, m, o, v :: vs, X, l, s => restP_ok (ps := ps) l s
  | .val _ :: ps, H, m, o, v :: vs, X, l, s => restP_ok (ps := ps) l s
  | .ref c :: ps, H, m, o, v :: vs, X, l, s => by
    obtain ⟨hv, l'⟩ := l
    have s1 : Sat B w (PostS S ps o.2 vs ++ (remP S ρ ps m.2 ++ (dH S.kt ρ H ++ (pcS S.kt (.own c o.1) v :: remS S ρ c m.1 :: X)))) := s.perm (perm_cnt fun f g h1 h2 h3 => by simp only [PostS, remP, List.cons_append, h1, h2, h3]; omega)
    have s2 := restP_ok l' s1
    rw [hv] at s2
    have s3 := own_at (q := remAddr S ρ c m.1) (s2.perm (perm3 (dH S.kt ρ (restP S ps m.2 o.2 H)) [] _ _))
    exact restRef_ok (s3.perm (perm_cnt fun f g h1 h2 h3 => by simp only [h1, h2, h3]; omega))
/-! ### Calls -/
structure Con (S : Shp) where
  f : FuncId
  ps : List Pk
  rs : List Rk
  spec : TupP S ps → Option (TupR S rs × TupO S ps)
def conCall (S : Shp) (c : Con S) {α : Type} (vs : List V) (n : Nat) (Z H : S.kt.H) (k : Nat → S.kt.H → V → Option α) : Option α :=
  match absP S Z c.ps H vs with
  | some (x, H1, m) => (c.spec x).bind fun out => match Nat.ble (topH (restP S c.ps m out.2 H1)) n with
    | true => k (cout S c.rs out.1 n).2.2 ((cout S c.rs out.1 n).2.1 ++ restP S c.ps m out.2 H1) (tupV (cout S c.rs out.1 n).1)
    | false => none
  | none => none
def findC (S : Shp) : List (Con S) → FuncId → Option (Con S)
  | [], _ => none
  | c :: l, f => match Nat.beq c.f f with
    | true => some c
    | false => findC S l f
/-- Calls by the contracts of a list. -/
def byCons (S : Shp) (cs : List (Con S)) : CallF S.kt := fun _ f vs n Z H k => match findC S cs f with
  | some c => conCall S c vs n Z H k
  | none => none
theorem findC_ok {cs : List (Con S)} {f : FuncId} {c : Con S} (h : findC S cs f = some c) : c ∈ cs ∧ c.f = f := by
  induction cs with
  | nil => cases h
  | cons d cs ih =>
    unfold findC at h
    split at h
    · rename_i e; cases h; exact ⟨List.mem_cons_self .., Nat.eq_of_beq_eq_true e⟩
    · obtain ⟨h1, h2⟩ := ih h; exact ⟨List.mem_cons_of_mem _ h1, h2⟩
theorem cout_le : ∀ {rs : List Rk} {x : TupR S rs} {n : Nat}, n ≤ (cout S rs x n).2.2
  | [], _, _ => Nat.le_refl _
  | .sh _ :: rs, x, n => Nat.le_trans (Nat.le_succ n) (cout_le (rs := rs) (x := x.2))
  | .val c :: rs, x, n => Nat.le_trans (Nat.le_add_right ..) (cout_le (rs := rs) (x := x.2))
theorem byCons_ok {P : Program} {W : World} {cs : List (Con S)} (h : ∀ c ∈ cs, ConOk S P c.f c.ps c.rs c.spec) : CallOk S.kt P B W (byCons S cs) := by
  intro α fid vs n Z H k out hk h1 h2 h3 F ρ w hw
  unfold byCons at hk
  split at hk
  · rename_i c hc
    obtain ⟨hm, rfl⟩ := findC_ok hc
    unfold conCall at hk
    split at hk
    · rename_i x H1 m hx
      cases hsp : c.spec x with
      | none => rw [hsp] at hk; cases hk
      | some o =>
        rw [hsp] at hk
        simp only [Option.bind_some] at hk
        split at hk
        · rename_i hB
          have hB' := Nat.le_of_ble_eq_true hB
          obtain ⟨l, s1⟩ := absP_ok hx (X := [F]) hw.2.2
          have hcl : Cls B W (PreS S c.ps x (denVs ρ vs) ++ [starS (remP S ρ c.ps m ++ (dH S.kt ρ H1 ++ (dH S.kt ρ Z ++ [F])))]) w := ⟨hw.1, hw.2.1, s1.fold⟩
          refine (h c hm x o hsp B W (denVs ρ vs) _ w hcl).mono ?_
          rintro e w' ⟨us, he, hb1, hb2, hs⟩
          have s2 : Sat B w' (ResS S c.rs o.1 us ++ (PostS S c.ps o.2 (denVs ρ vs) ++ (remP S ρ c.ps m ++ (dH S.kt ρ H1 ++ (dH S.kt ρ Z ++ [F]))))) := by
            rw [← List.append_assoc] at hs
            have := hs.unfold
            rwa [List.append_assoc] at this
          have s3 : Sat B w' (PostS S c.ps o.2 (denVs ρ vs) ++ (remP S ρ c.ps m ++ (dH S.kt ρ H1 ++ (ResS S c.rs o.1 us ++ (dH S.kt ρ Z ++ [F]))))) := s2.perm (perm_cnt fun f g h1 h2 h3 => by simp only [h1, h2, h3]; omega)
          have s4 := restP_ok l s3
          have s5 : Sat B w' (ResS S c.rs o.1 us ++ (fun ρ => dH S.kt ρ (restP S c.ps m o.2 H1) ++ tl S.kt Z F ρ) ρ) := s4.perm (permS _ _ _)
          obtain ⟨ρ', a, e1, s6⟩ := cout_ok (n := n) (X := fun ρ => dH S.kt ρ (restP S c.ps m o.2 H1) ++ tl S.kt Z F ρ) (fun ρ ρ' ha => by
            show _ ++ _ = _ ++ _
            rw [dH_agree ha _ hB', tl_agree h2 ha]) s5
          refine ⟨⟨ρ', _, _, _⟩, ⟨a, cout_le, hk⟩, ?_, hb1, hb2, ?_⟩
          · rw [he, e1, tupV_den]; rfl
          · rw [dS, dHa, List.append_assoc]; exact s6
        · cases hk
    · cases hk
  · cases hk
end
end
section
open Go Go.RowKit
section
variable {S : Shp}
def CO (P : Program) (c : Con S) : Prop := ConOk S P c.f c.ps c.rs c.spec
def Oks (P : Program) : List (Con S) → Prop
  | [] => True
  | c :: l => CO P c ∧ Oks P l
theorem Oks.mem {P : Program} : ∀ {l : List (Con S)}, Oks P l → ∀ c ∈ l, CO P c
  | [], _, c, h => by cases h
  | d :: l, ⟨h1, h2⟩, c, h => (List.mem_cons.1 h).elim (fun e => by subst e; exact h1) (h2.mem c)
def Tbs (P : Program) : List (Nat × Func) → Prop
  | [] => True
  | p :: l => P.funcs[p.1]? = some p.2 ∧ Tbs P l
theorem Tbs.mem {P : Program} : ∀ {l : List (Nat × Func)}, Tbs P l → ∀ p ∈ l, P.funcs[p.1]? = some p.2
  | [], _, c, h => by cases h
  | d :: l, ⟨h1, h2⟩, c, h => (List.mem_cons.1 h).elim (fun e => by subst e; exact h1) (h2.mem c)
noncomputable abbrev evC (P : Program) (tb : List (Nat × Func)) (hsf : Nat → List (Nat × Hint)) (cs : List (Con S)) (hs : List (Nat × Hint)) (fn : Func) (c : Con S) (x : TupP S c.ps) : Option (TupR S c.rs × TupO S c.ps) :=
  evF S P (inl S P tb hsf (byCons S cs) tb.length) hs fn (cin S c.ps x 0).1 (cin S c.ps x 0).2.2 [] (cin S c.ps x 0).2.1 (kfin S c.ps c.rs)
theorem co_fn {P : Program} (hm : P.follows .mixedOrders = true) {c : Con S} {fn : Func} (hf : P.funcs[c.f]? = some fn) (cs : List (Con S)) (h : Oks P cs) (tb : List (Nat × Func)) (ht : Tbs P tb) (hsf : Nat → List (Nat × Hint)) (hs : List (Nat × Hint))
    (he : ∀ x, evC P tb hsf cs hs fn c x = c.spec x) : CO P c :=
  conOk_of hm hf (fun _ _ => inl_ok hm ht.mem (byCons_ok h.mem) tb.length) he
end
end
section
open Go Go.RowKit
section
variable {α : Type} {enc : α → List Value} {sz B : Nat} {w : World} {A : Option Addr} {c : Nat} {xs : List α} {L : List SProp}
/-- A slice below the call's own memory is held to be read. -/
theorem sat_in (hz : 0 < sz) (henc : ∀ x, (enc x).length = sz) (hS : Sl enc sz w B A xs) (hc : xs.length ≤ c) (s : Sat B w L) : Sat B w (roS enc sz A c xs :: L) := by
  obtain ⟨h, H, hs⟩ := s
  refine ⟨join (fun b o => if b < B then (w.cell? ⟨b, o, none⟩).map .look else none) h, ?_, _, h, ?_, rfl, ?_, hs⟩
  · intro b o x hx
    unfold join at hx
    by_cases hb : b < B
    · simp only [if_pos hb] at hx
      cases hv : w.cell? ⟨b, o, none⟩ with
      | none => rw [hv] at hx; exact H b o x hx
      | some v =>
        rw [hv] at hx
        obtain rfl := Option.some.inj hx
        exact ⟨.inr trivial, hv⟩
    · simp only [if_neg hb] at hx
      exact H b o x hx
  · intro b o
    by_cases hb : b < B
    · simp only [if_pos hb]
      cases hv : w.cell? ⟨b, o, none⟩ with
      | none => exact .inl rfl
      | some v =>
        cases hh : h b o with
        | none => exact .inr (.inl rfl)
        | some y =>
          obtain ⟨h1, h2⟩ := H b o y hh
          cases y with
          | cell v' => exact absurd (h1.resolve_right id) (by omega)
          | obj v' => exact absurd (h1.resolve_right id) (by omega)
          | look v' =>
            have h3 : w.cell? ⟨b, o, none⟩ = some v' := h2
            rw [hv] at h3
            obtain rfl := Option.some.inj h3
            exact .inr (.inr ⟨v, rfl, rfl⟩)
    · simp only [if_neg hb]; exact .inl rfl
  · refine ⟨fun b o => if b < B then (w.cell? ⟨b, o, none⟩).map .look else none, fun b o x hx => ⟨?_, hx⟩, fun u hu => ⟨⟨hS.1, fun hne => ?_⟩, hc⟩⟩
    · by_cases hb : b < B
      · simp only [if_pos hb] at hx
        cases hv : w.cell? ⟨b, o, none⟩ with
        | none => rw [hv] at hx; cases hx
        | some v => rw [hv] at hx; exact ⟨v, (Option.some.inj hx).symm⟩
      · simp only [if_neg hb] at hx; cases hx
    · obtain ⟨b, o, hA, hb, hcell⟩ := hS.2 hne
      have key : ∀ (i : Nat) x, xs[i]? = some x → ∀ (j : Nat) v, (enc x)[j]? = some v → u.cell? ⟨b, o + i * sz + j, none⟩ = some v := fun i x hx j v hv => by
        have h1 := hcell i x hx j v hv
        exact hu b (o + i * sz + j) (.look v) (by simp only [if_pos hb, h1]; rfl)
      refine ⟨b, o, hA, ?_, key⟩
      cases xs with
      | nil => exact absurd rfl hne
      | cons x xs =>
        cases hx : enc x with
        | nil => have := henc x; rw [hx] at this; simp at this; omega
        | cons y ys => exact lt_of_cell (key 0 x rfl 0 y (by rw [hx]; rfl))
end
end
end Go.Proofs.YtpbkelpokpglaaaGreat
