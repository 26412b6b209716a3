/- Evaluation by itself: calls by contracts. No program occurs here. Evaluation by itself: contracts in a row. No program occurs here. Evaluation by itself: methods of machines behind interfaces. No program occurs here. The reference's and the program's data as kinds. No program occurs here. The seat's kinds. A row that a call has made. No program occurs here. Evaluation by itself: slices that came in. No program occurs here. Contracts proved in another style, in the evaluator's words. No program occurs here. A configuration that came in. From the readings of the arguments to our words. -/
import Derived.Test.YtclaldommncdbaaGreatDqah
import Derived.Test.YtclaldommncdbaaGreatDqae
import Derived.Test.YtclaldommncdbaaGreatDqac
import Derived.Test.YtclaldommncdbaaGreatProg
import Derived.Test.YtclaldommncdbaaGreatChecked
import Derived.Laws.AppendOwn
import Derived.OpenShut
import Derived.ProofKit
import Derived.Deep.Slices
import Derived.Deep.Fields
import Derived.ChangeSame
set_option linter.all false
namespace Go.Proofs.YtclaldommncdbaaGreat
section
open Go Go.RowKit
inductive RemC (T : Nat → Type) (M : Type) (c : Nat) where
  | cells (id : Nat) (pre post : List (Fd T M))
  | elt (j : Nat) (i : Int) (xs : List (T c))
section
variable (S : Shp)
def ay1 (H : S.kt.H) (c : Nat) (v : V) : Option (S.T c × S.kt.H × RemC S.T S.M c) :=
  match v with
  | .ptr id o => match get H id with
    | some (.cells fs) => match Nat.ble (o + S.kt.sz c) fs.length with
      | true => match ata S.kt (asm S.kt) (del H id) (S.kt.vw c (S.kt.df c)) ((fs.drop o).take (S.kt.sz c)) with
        | some (l, H1) => match S.kt.bk c l with
          | some x => some (x, H1, .cells id (fs.take o) (fs.drop (o + S.kt.sz c)))
          | none => none
        | none => none
      | false => none
    | some (.elt j i sz) => match Nat.beq o 0 && Nat.beq sz (S.kt.sz c) with
      | true => match get H j with
        | some (.row c' xs) => match amq c' c xs with
          | some ys => some (atL (S.df c) ys i, del H j, .elt j i ys)
          | none => none
        | _ => none
      | false => none
    | _ => none
  | _ => none
def axb (c : Nat) (x : S.T c) (H : S.kt.H) : RemC S.T S.M c → S.kt.H
  | .cells id pre post => (id, .cells (pre ++ ((S.kt.vw c x).map .f ++ post))) :: H
  | .elt j i xs => (j, .row c (xs.set i.toNat x)) :: H
def awr (ρ : Env) (c : Nat) : RemC S.T S.M c → aad
  | .cells id pre post => fun h => ∃ us ws : List Value, us.length = pre.length ∧ abN (pts (ρ.p id).1 (ρ.p id).2 us :: pts (ρ.p id).1 ((ρ.p id).2 + pre.length + S.kt.sz c) ws :: (fsS (fS S.kt ρ) pre us ++ fsS (fS S.kt ρ) post ws)) h
  | .elt j i xs => fun h => ∃ (b o : Nat) (vss : List (List Value)) (spare : List Value) (N : List aad), (0 ≤ i ∧ i < (xs.length : Int)) ∧ ((ρ.s j).a = some ⟨b, o, none⟩ ∧ (ρ.s j).n = xs.length) ∧ (vss.length = xs.length ∧ ∀ v ∈ vss, v.length = S.kt.sz c) ∧
      (xs.length ≤ (ρ.s j).c ∧ (ρ.s j).c ≤ maxLen ∧ spare.length = ((ρ.s j).c - xs.length) * S.kt.sz c) ∧ (∀ x' vs', (acr S.kt (pcS S.kt) c (xs.set i.toNat x') (vss.set i.toNat vs')).Perm (fsS (pcS S.kt) (S.kt.vw c x') vs' ++ N)) ∧
      abN (pts b o (vss.flatten.take (i.toNat * S.kt.sz c)) :: pts b (o + i.toNat * S.kt.sz c + S.kt.sz c) (vss.flatten.drop (i.toNat * S.kt.sz c + S.kt.sz c) ++ spare) :: N) h
def adq (ρ : Env) (c : Nat) : RemC S.T S.M c → Nat × Nat
  | .cells id pre _ => ((ρ.p id).1, (ρ.p id).2 + pre.length)
  | .elt j i _ => match (ρ.s j).a with
    | some a => (a.block, a.off + i.toNat * S.kt.sz c)
    | none => (0, 0)
end
section
variable {S : Shp} {B : Nat} {w : World} {ρ : Env}
theorem alQ {α : Type} {A : α → aad} {L : List aad} (s : Sat B w ((fun h => ∃ x, A x h) :: L)) : ∃ x, Sat B w (A x :: L) := by
  obtain ⟨h, Hh, k1, k2, a, e, ⟨x, hx⟩, hL⟩ := s
  exact ⟨x, h, Hh, k1, k2, a, e, hx, hL⟩
theorem azK {N L : List aad} (s : Sat B w (abN N :: L)) : Sat B w (N ++ L) := by
  obtain ⟨h, Hh, k1, k2, a, e, hx, hL⟩ := s
  exact ⟨h, Hh, aam.2 ⟨k1, k2, a, e, hx, hL⟩⟩
theorem ajd {N L : List aad} {A : aad} (f : ∀ h, abN N h → A h) (s : Sat B w (N ++ L)) : Sat B w (A :: L) := by
  obtain ⟨h, Hh, hs⟩ := s
  obtain ⟨k1, k2, a, e, g1, g2⟩ := aam.1 hs
  exact ⟨h, Hh, k1, k2, a, e, f _ g1, g2⟩
theorem ay0 {H H1 : S.kt.H} {c : Nat} {v : V} {x : S.T c} {r : RemC S.T S.M c} (h : ay1 S H c v = some (x, H1, r)) {X : List aad} (s : Sat B w (dH S.kt ρ H ++ X)) :
    aaz ρ v = .pointer (some ⟨(adq S ρ c r).1, (adq S ρ c r).2, none⟩) ∧ Sat B w (obS S.kt c x (adq S ρ c r) :: awr S ρ c r :: (dH S.kt ρ H1 ++ X)) := by
  unfold ay1 at h
  split at h
  · rename_i id o
    split at h
    · rename_i fs hg
      split at h
      · rename_i hB
        split at h
        · rename_i l H2 hl
          split at h
          · rename_i y hy
            cases h
            have hle := Nat.le_of_ble_eq_true hB
            obtain ⟨vs, s1⟩ := agG (s.imp (aaW (ρ := ρ) hg))
            have hlen := aiu s1
            have hol : (fs.take o).length = o := by simp; omega
            refine ⟨by simp [aaz, adq, hol], ?_⟩
            -- three parts
            have e1 : fsS (fS S.kt ρ) fs vs = fsS (fS S.kt ρ) (fs.take o) (vs.take o) ++ (fsS (fS S.kt ρ) ((fs.drop o).take (S.kt.sz c)) ((vs.drop o).take (S.kt.sz c)) ++ fsS (fS S.kt ρ) (fs.drop (o + S.kt.sz c)) (vs.drop (o + S.kt.sz c))) := by
              conv => lhs; rw [← List.take_append_drop o fs, ← List.take_append_drop o vs, ahJ (by simp [hlen])]
              conv => lhs; arg 2; rw [← List.take_append_drop (S.kt.sz c) (fs.drop o), ← List.take_append_drop (S.kt.sz c) (vs.drop o), ahJ (by simp [hlen]), List.drop_drop, List.drop_drop]
            have e2 : vs = vs.take o ++ ((vs.drop o).take (S.kt.sz c) ++ vs.drop (o + S.kt.sz c)) := by
              rw [← List.drop_drop, List.take_append_drop, List.take_append_drop]
            have s2 : Sat B w (pts (ρ.p id).1 (ρ.p id).2 (vs.take o ++ ((vs.drop o).take (S.kt.sz c) ++ vs.drop (o + S.kt.sz c))) :: (fsS (fS S.kt ρ) fs vs ++ (dH S.kt ρ (del H id) ++ X))) := by rw [← e2]; exact s1
            have s3 := s2.imp alY
            have hvo : (vs.take o).length = o := by simp; omega
            rw [hvo] at s3
            have s4 : Sat B w (pts (ρ.p id).1 ((ρ.p id).2 + o) ((vs.drop o).take (S.kt.sz c) ++ vs.drop (o + S.kt.sz c)) :: pts (ρ.p id).1 (ρ.p id).2 (vs.take o) :: (fsS (fS S.kt ρ) fs vs ++ (dH S.kt ρ (del H id) ++ X))) := s3.perm (List.Perm.swap ..)
            have s5 := s4.imp alY
            have hvm : ((vs.drop o).take (S.kt.sz c)).length = S.kt.sz c := by rw [List.length_take, List.length_drop]; omega
            rw [hvm, e1] at s5
            -- the middle is put together
            have s6 : Sat B w (fsS (fS S.kt ρ) ((fs.drop o).take (S.kt.sz c)) ((vs.drop o).take (S.kt.sz c)) ++ (dH S.kt ρ (del H id) ++ (pts (ρ.p id).1 ((ρ.p id).2 + o) ((vs.drop o).take (S.kt.sz c)) :: ((pts (ρ.p id).1 (ρ.p id).2 (vs.take o) :: pts (ρ.p id).1 ((ρ.p id).2 + o + S.kt.sz c) (vs.drop (o + S.kt.sz c)) :: (fsS (fS S.kt ρ) (fs.take o) (vs.take o) ++ fsS (fS S.kt ρ) (fs.drop (o + S.kt.sz c)) (vs.drop (o + S.kt.sz c)))) ++ X)))) := by
              refine s5.perm ?_
              refine List.Perm.symm ?_
              refine (ajE _ _ _ _).trans (List.Perm.cons _ ?_)
              simp only [List.cons_append]
              refine (ajE _ _ _ _).trans ?_
              refine List.Perm.trans (List.Perm.cons _ (ajE _ _ _ _)) ?_
              refine (List.Perm.swap ..).trans (List.Perm.cons _ (List.Perm.cons _ ?_))
              simp only [List.append_assoc]
              -- mid ++ (H ++ (pre ++ (post ++ X)))  ~  pre ++ (mid ++ (post ++ (H ++ X)))
              refine (List.Perm.append_left _ (ac4 _ _ _)).trans ?_
              refine (ac4 _ _ _).trans (List.Perm.append_left _ (List.Perm.append_left _ (ac4 _ _ _)))
            have s7 := ahX aph hl s6
            have s8 : Sat B w ((pts (ρ.p id).1 ((ρ.p id).2 + o) ((vs.drop o).take (S.kt.sz c)) :: fsS (pcS S.kt) l ((vs.drop o).take (S.kt.sz c))) ++ ((pts (ρ.p id).1 (ρ.p id).2 (vs.take o) :: pts (ρ.p id).1 ((ρ.p id).2 + o + S.kt.sz c) (vs.drop (o + S.kt.sz c)) :: (fsS (fS S.kt ρ) (fs.take o) (vs.take o) ++ fsS (fS S.kt ρ) (fs.drop (o + S.kt.sz c)) (vs.drop (o + S.kt.sz c)))) ++ (dH S.kt ρ H1 ++ X))) := by
              refine s7.perm ?_
              refine (ajE _ _ _ _).trans ?_
              simp only [List.cons_append]
              refine List.Perm.cons _ (List.Perm.append_left _ ?_)
              exact ac4 (dH S.kt ρ H1) (pts (ρ.p id).1 (ρ.p id).2 (vs.take o) :: pts (ρ.p id).1 ((ρ.p id).2 + o + S.kt.sz c) (vs.drop (o + S.kt.sz c)) :: (fsS (fS S.kt ρ) (fs.take o) (vs.take o) ++ fsS (fS S.kt ρ) (fs.drop (o + S.kt.sz c)) (vs.drop (o + S.kt.sz c)))) X
            refine ajd (fun k hk => ?_) (?_ : Sat B w ((pts (ρ.p id).1 ((ρ.p id).2 + o) ((vs.drop o).take (S.kt.sz c)) :: fsS (pcS S.kt) l ((vs.drop o).take (S.kt.sz c))) ++ (awr S ρ c (.cells id (fs.take o) (fs.drop (o + S.kt.sz c))) :: (dH S.kt ρ H1 ++ X))))
            · refine akb.2 ⟨(vs.drop o).take (S.kt.sz c), ?_⟩
              rw [S.kt.bk_ok _ _ _ hy]
              simpa [adq, hol] using hk
            · have s9 := s8.perm List.perm_append_comm
              rw [List.append_assoc] at s9
              have s10 := ajd (A := awr S ρ c (.cells id (fs.take o) (fs.drop (o + S.kt.sz c)))) (fun k hk => ⟨vs.take o, vs.drop (o + S.kt.sz c), by rw [hvo, hol], by rw [hol]; exact hk⟩) s9
              refine s10.perm ?_
              refine List.Perm.symm ?_
              refine (List.perm_middle).trans (List.Perm.cons _ List.perm_append_comm)
          · cases h
        · cases h
      · cases h
    · rename_i j i sz hel
      split at h
      · rename_i hB
        split at h
        · rename_i c' xs hg
          split at h
          · rename_i ys hy
            cases h
            obtain ⟨rfl, rfl⟩ := af7 hy
            simp only [Bool.and_eq_true] at hB
            obtain rfl := Nat.eq_of_beq_eq_true hB.1
            obtain rfl := Nat.eq_of_beq_eq_true hB.2
            obtain ⟨hi, b, o2, hA, hp⟩ := asK s hel
            obtain ⟨hn, vss, h2, h3, s2⟩ := ajN s hg
            rw [hn] at hi
            have hxi := aet (d := S.df c') hi
            have hlt : i.toNat < vss.length := by omega
            have hvs : vss[i.toNat]? = some vss[i.toNat] := List.getElem?_eq_getElem hlt
            have hvl := h3 _ (List.getElem_mem hlt)
            refine ⟨by simp [aaz, adq, hA, hp], ?_⟩
            obtain ⟨hh, Hh, k1, k2, a, e, ⟨r1, r2, r3, r4⟩, hL⟩ := s2
            rcases r4 with ⟨r4, _⟩ | ⟨b', o', spare, hA', hsp, hpts⟩
            · rw [r4] at hA; cases hA
            · rw [hA] at hA'
              cases hA'
              obtain ⟨N, p1, p2⟩ := ag7 (pc := pcS S.kt) hxi hvs
              have hfl := adU h3
              have hlow : i.toNat * S.kt.sz c' + S.kt.sz c' ≤ vss.flatten.length := by
                rw [hfl]
                have : (i.toNat + 1) * S.kt.sz c' ≤ vss.length * S.kt.sz c' := Nat.mul_le_mul_right _ hlt
                rw [Nat.add_mul] at this; omega
              have hmid : (vss.flatten.drop (i.toNat * S.kt.sz c')).take (S.kt.sz c') = vss[i.toNat] := by
                apply List.ext_getElem?
                intro q
                by_cases hq : q < S.kt.sz c'
                · rw [List.getElem?_take_of_lt hq, List.getElem?_drop]
                  rw [ajt h3 hvs (v := (vss[i.toNat])[q]'(by omega)) (List.getElem?_eq_getElem _), List.getElem?_eq_getElem]
                · rw [List.getElem?_eq_none (by rw [List.length_take, List.length_drop]; omega), List.getElem?_eq_none (by omega)]
              have e2 : vss.flatten ++ spare = vss.flatten.take (i.toNat * S.kt.sz c') ++ (vss[i.toNat] ++ (vss.flatten.drop (i.toNat * S.kt.sz c' + S.kt.sz c') ++ spare)) := by
                rw [← hmid, ← List.drop_drop, ← List.append_assoc (List.take _ _), ← List.append_assoc, List.append_assoc (List.take (i.toNat * S.kt.sz c') _), List.take_append_drop, List.take_append_drop]
              have t1 : Sat B w (pts b o2 (vss.flatten.take (i.toNat * S.kt.sz c') ++ (vss[i.toNat] ++ (vss.flatten.drop (i.toNat * S.kt.sz c' + S.kt.sz c') ++ spare))) :: (acr S.kt (pcS S.kt) c' ys vss ++ (dH S.kt ρ (del H j) ++ X))) := by
                rw [← e2]; exact ⟨hh, Hh, k1, k2, a, e, hpts, hL⟩
              have t2 := t1.imp alY
              have htl : (vss.flatten.take (i.toNat * S.kt.sz c')).length = i.toNat * S.kt.sz c' := by rw [List.length_take]; omega
              rw [htl] at t2
              have t3 := (t2.perm (List.Perm.swap ..)).imp alY
              rw [hvl] at t3
              have t4 : Sat B w ((pts b (o2 + i.toNat * S.kt.sz c') vss[i.toNat] :: fsS (pcS S.kt) (S.kt.vw c' (atL (S.df c') ys i)) vss[i.toNat]) ++ ((pts b o2 (vss.flatten.take (i.toNat * S.kt.sz c')) :: pts b (o2 + i.toNat * S.kt.sz c' + S.kt.sz c') (vss.flatten.drop (i.toNat * S.kt.sz c' + S.kt.sz c') ++ spare) :: N) ++ (dH S.kt ρ (del H j) ++ X))) := by
                refine t3.perm ?_
                simp only [List.cons_append]
                refine List.Perm.cons _ ?_
                refine (List.Perm.swap ..).trans ?_
                refine List.Perm.trans ?_ (List.perm_middle).symm
                refine List.Perm.cons _ ?_
                refine List.Perm.trans ?_ (List.perm_middle).symm
                refine List.Perm.cons _ ?_
                exact (p1.append_right _).trans (by rw [List.append_assoc])
              refine ajd (fun k hk => ?_) (?_ : Sat B w ((pts b (o2 + i.toNat * S.kt.sz c') vss[i.toNat] :: fsS (pcS S.kt) (S.kt.vw c' (atL (S.df c') ys i)) vss[i.toNat]) ++ (awr S ρ c' (.elt j i ys) :: (dH S.kt ρ (del H j) ++ X))))
              · refine akb.2 ⟨vss[i.toNat], ?_⟩
                simpa [adq, hA] using hk
              · have s9 := t4.perm List.perm_append_comm
                rw [List.append_assoc] at s9
                have s10 := ajd (A := awr S ρ c' (.elt j i ys)) (fun k hk => ⟨b, o2, vss, spare, N, hi, ⟨hA, hn⟩, ⟨h2.symm, h3⟩, ⟨r2, r3, hsp⟩, p2, hk⟩) s9
                refine s10.perm ?_
                refine List.Perm.symm ?_
                exact (List.perm_middle).trans (List.Perm.cons _ List.perm_append_comm)
          · cases h
        · cases h
      · cases h
    · cases h
  · cases h
theorem av0 {H : S.kt.H} {c : Nat} {x : S.T c} {r : RemC S.T S.M c} {X : List aad} (s : Sat B w (obS S.kt c x (adq S ρ c r) :: awr S ρ c r :: (dH S.kt ρ H ++ X))) : Sat B w (dH S.kt ρ (axb S c x H r) ++ X) := by
  obtain ⟨h, Hh, k1, k2, a, e, hO, hL⟩ := s
  rw [akb] at hO
  obtain ⟨vs, hO⟩ := hO
  have s1 : Sat B w ((pts (adq S ρ c r).1 (adq S ρ c r).2 vs :: fsS (pcS S.kt) (S.kt.vw c x) vs) ++ (awr S ρ c r :: (dH S.kt ρ H ++ X))) := ⟨h, Hh, aam.2 ⟨k1, k2, a, e, hO, hL⟩⟩
  have hlen : (S.kt.vw c x).length = vs.length := aiu s1
  rw [S.kt.sz_ok] at hlen
  have s2 : Sat B w (awr S ρ c r :: ((pts (adq S ρ c r).1 (adq S ρ c r).2 vs :: fsS (pcS S.kt) (S.kt.vw c x) vs) ++ (dH S.kt ρ H ++ X))) := s1.perm (aas fun f g h1 h2 h3 => by simp only [h1, h2, h3]; omega)
  cases r with
  | cells id pre post =>
    obtain ⟨us, s3⟩ := alQ (show Sat B w ((fun h => ∃ us, (fun us h => ∃ ws : List Value, us.length = pre.length ∧ abN (pts (ρ.p id).1 (ρ.p id).2 us :: pts (ρ.p id).1 ((ρ.p id).2 + pre.length + S.kt.sz c) ws :: (fsS (fS S.kt ρ) pre us ++ fsS (fS S.kt ρ) post ws)) h) us h) :: ((pts ((ρ.p id).1) ((ρ.p id).2 + pre.length) vs :: fsS (pcS S.kt) (S.kt.vw c x) vs) ++ (dH S.kt ρ H ++ X))) from s2)
    obtain ⟨ws, s4⟩ := alQ s3
    obtain ⟨hu, s5⟩ : us.length = pre.length ∧ Sat B w (abN (pts (ρ.p id).1 (ρ.p id).2 us :: pts (ρ.p id).1 ((ρ.p id).2 + pre.length + S.kt.sz c) ws :: (fsS (fS S.kt ρ) pre us ++ fsS (fS S.kt ρ) post ws)) :: ((pts ((ρ.p id).1) ((ρ.p id).2 + pre.length) vs :: fsS (pcS S.kt) (S.kt.vw c x) vs) ++ (dH S.kt ρ H ++ X))) := by
      obtain ⟨h', Hh', j1, j2, a', e', ⟨g1, g2⟩, hL'⟩ := s4
      exact ⟨g1, h', Hh', j1, j2, a', e', g2, hL'⟩
    have s6 := azK s5
    have s7 : Sat B w (pts (ρ.p id).1 ((ρ.p id).2 + pre.length) vs :: pts (ρ.p id).1 ((ρ.p id).2 + pre.length + S.kt.sz c) ws :: (pts (ρ.p id).1 (ρ.p id).2 us :: (fsS (fS S.kt ρ) pre us ++ (fsS (pcS S.kt) (S.kt.vw c x) vs ++ fsS (fS S.kt ρ) post ws)) ++ (dH S.kt ρ H ++ X))) := s6.perm (aas fun f g h1 h2 h3 => by simp only [h1, h2, h3]; omega)
    have s8 := s7.imp (alZ (by rw [← hlen]))
    have s9 := (s8.perm (List.Perm.swap ..)).imp (alZ (by rw [hu]))
    refine ajd (N := pts (ρ.p id).1 (ρ.p id).2 (us ++ (vs ++ ws)) :: (fsS (fS S.kt ρ) pre us ++ (fsS (pcS S.kt) (S.kt.vw c x) vs ++ fsS (fS S.kt ρ) post ws))) (fun k hk => ⟨us ++ (vs ++ ws), ?_⟩) s9
    show abN (pts (ρ.p id).1 (ρ.p id).2 (us ++ (vs ++ ws)) :: fsS (fS S.kt ρ) (pre ++ ((S.kt.vw c x).map .f ++ post)) (us ++ (vs ++ ws))) k
    rw [ahJ hu.symm, ahJ (by rw [List.length_map, S.kt.sz_ok, hlen]), aoS (pcS S.kt) _ (fun x v => rfl)]
    exact hk
  | elt j i xs =>
    obtain ⟨h', Hh', j1, j2, a', e', ⟨b, o, vss, spare, N, hi, ⟨hA, hn⟩, ⟨hvl, hvz⟩, ⟨hc1, hc2, hc3⟩, hperm, hst⟩, hL'⟩ := s2
    have s3 : Sat B w ((pts b o (vss.flatten.take (i.toNat * S.kt.sz c)) :: pts b (o + i.toNat * S.kt.sz c + S.kt.sz c) (vss.flatten.drop (i.toNat * S.kt.sz c + S.kt.sz c) ++ spare) :: N) ++ ((pts (adq S ρ c (.elt j i xs)).1 (adq S ρ c (.elt j i xs)).2 vs :: fsS (pcS S.kt) (S.kt.vw c x) vs) ++ (dH S.kt ρ H ++ X))) := ⟨h', Hh', aam.2 ⟨j1, j2, a', e', hst, hL'⟩⟩
    have hra : adq S ρ c (.elt j i xs) = (b, o + i.toNat * S.kt.sz c) := by simp [adq, hA]
    rw [hra] at s3
    have hlt : i.toNat < vss.length := by omega
    have hvs : vss[i.toNat]? = some vss[i.toNat] := List.getElem?_eq_getElem hlt
    have hfl := adU hvz
    have hlow : i.toNat * S.kt.sz c + S.kt.sz c ≤ vss.flatten.length := by
      rw [hfl]
      have : (i.toNat + 1) * S.kt.sz c ≤ vss.length * S.kt.sz c := Nat.mul_le_mul_right _ hlt
      rw [Nat.add_mul] at this; omega
    have htl : (vss.flatten.take (i.toNat * S.kt.sz c)).length = i.toNat * S.kt.sz c := by rw [List.length_take]; omega
    have s4 : Sat B w (pts b (o + i.toNat * S.kt.sz c) vs :: pts b (o + i.toNat * S.kt.sz c + S.kt.sz c) (vss.flatten.drop (i.toNat * S.kt.sz c + S.kt.sz c) ++ spare) :: (pts b o (vss.flatten.take (i.toNat * S.kt.sz c)) :: (fsS (pcS S.kt) (S.kt.vw c x) vs ++ N) ++ (dH S.kt ρ H ++ X))) := s3.perm (aas fun f g h1 h2 h3 => by simp only [h1, h2, h3]; omega)
    have s5 := s4.imp (alZ (by rw [← hlen]))
    have s6 := (s5.perm (List.Perm.swap ..)).imp (alZ (by rw [htl]))
    have e2 : vss.flatten.take (i.toNat * S.kt.sz c) ++ (vs ++ (vss.flatten.drop (i.toNat * S.kt.sz c + S.kt.sz c) ++ spare)) = (vss.set i.toNat vs).flatten ++ spare := by
      have := ahK (o := 0) (us := vs) hvz hvs (by omega)
      have e3 : (vss[i.toNat]).take 0 ++ vs ++ (vss[i.toNat]).drop (0 + vs.length) = vs := by
        have := hvz _ (List.getElem_mem hlt)
        rw [List.drop_eq_nil_of_le (by omega)]; simp
      rw [e3, Nat.add_zero, ← hlen] at this
      rw [this]; simp only [List.append_assoc]
    rw [e2] at s6
    have s7 : Sat B w ((pts b o ((vss.set i.toNat vs).flatten ++ spare) :: acr S.kt (pcS S.kt) c (xs.set i.toNat x) (vss.set i.toNat vs)) ++ (dH S.kt ρ H ++ X)) := s6.perm (List.Perm.cons _ ((hperm x vs).symm.append_right _))
    refine ajd (fun k hk => ?_) s7
    obtain ⟨q1, q2, qa, qe, g1, g2⟩ := hk
    refine ⟨by rw [List.length_set]; exact hn, adn.2 ⟨vss.set i.toNat vs, q1, q2, qa, qe, ⟨?_, ?_, hc2, .inr ⟨b, o, spare, hA, ?_, g1⟩⟩, g2⟩⟩
    · have hz2 : ∀ v ∈ vss.set i.toNat vs, v.length = S.kt.sz c := fun v hv => by
        rcases List.mem_or_eq_of_mem_set hv with e | e
        · exact hvz v e
        · rw [e, ← hlen]
      rw [adU hz2, List.length_set, List.length_set, hvl]
    · rw [List.length_set]; exact hc1
    · rw [List.length_set]; exact hc3
end
section
variable (S : Shp)
def ay3 : List Pk → Type
  | [] => Unit
  | .ref c :: l => RemC S.T S.M c × ay3 l
  | .mch :: l => Nat × ay3 l
  | .lent _ :: l => Nat × ay3 l
  | .sh _ :: l => ay3 l
  | .val _ :: l => ay3 l
def awu (Z : S.kt.H) : (ps : List Pk) → S.kt.H → List V → Option (akn S ps × S.kt.H × ay3 S ps)
  | [], H, [] => some ((), H, ())
  | .sh s :: ps, H, v :: vs => match aF3 S Z H s v with
    | some (x, H1) => match awu Z ps H1 vs with
      | some (r, H2, m) => some ((x, r), H2, m)
      | none => none
    | none => none
  | .val c :: ps, H, v :: vs => match aF5 S H c v with
    | some (x, H1) => match awu Z ps H1 vs with
      | some (r, H2, m) => some ((x, r), H2, m)
      | none => none
    | none => none
  | .ref c :: ps, H, v :: vs => match ay1 S H c v with
    | some (x, H1, q) => match awu Z ps H1 vs with
      | some (r, H2, m) => some ((x, r), H2, (q, m))
      | none => none
    | none => none
  | .mch :: ps, H, v :: vs => match v with
    | .mc id => match get H id with
      | some (.mach x) => match awu Z ps (del H id) vs with
        | some (r, H2, m) => some ((x, r), H2, (id, m))
        | none => none
      | _ => none
    | _ => none
  | .lent c :: ps, H, v :: vs => match v with
    | .sl id => match get H id with
      | some (.row c' xs) => match amq c' c xs with
        | some ys => match awu Z ps (del H id) vs with
          | some (r, H2, m) => some ((ys, r), H2, (id, m))
          | none => none
        | none => none
      | _ => none
    | _ => none
  | _, _, _ => none
def akQ : (ps : List Pk) → ay3 S ps → ai7 S ps → S.kt.H → S.kt.H
  | [], _, _, H => H
  | .sh _ :: ps, m, o, H => akQ ps m o H
  | .val _ :: ps, m, o, H => akQ ps m o H
  | .ref c :: ps, m, o, H => axb S c o.1 (akQ ps m.2 o.2 H) m.1
  | .mch :: ps, m, o, H => (m.1, .mach o.1) :: akQ ps m.2 o.2 H
  | .lent c :: ps, m, o, H => (m.1, .row c o.1) :: akQ ps m.2 o.2 H
def apn (ρ : Env) : (ps : List Pk) → ay3 S ps → List aad
  | [], _ => []
  | .sh _ :: ps, m => apn ρ ps m
  | .val _ :: ps, m => apn ρ ps m
  | .ref c :: ps, m => awr S ρ c m.1 :: apn ρ ps m.2
  | .mch :: ps, m => apn ρ ps m.2
  | .lent _ :: ps, m => apn ρ ps m.2
def aoJ (ρ : Env) : (ps : List Pk) → ay3 S ps → List Value → Prop
  | [], _, _ => True
  | .sh _ :: ps, m, _ :: vs => aoJ ρ ps m vs
  | .val _ :: ps, m, _ :: vs => aoJ ρ ps m vs
  | .ref c :: ps, m, v :: vs => v = .pointer (some ⟨(adq S ρ c m.1).1, (adq S ρ c m.1).2, none⟩) ∧ aoJ ρ ps m.2 vs
  | .mch :: ps, m, v :: vs => v = ρ.v m.1 ∧ aoJ ρ ps m.2 vs
  | .lent _ :: ps, m, v :: vs => v = aaz ρ (.sl m.1) ∧ aoJ ρ ps m.2 vs
  | _ :: _, _, [] => False
end
section
variable {S : Shp} {B : Nat} {w : World} {ρ : Env}
theorem aCn {id c' c : Nat} {zs : List (S.T c')} {ys : List (S.T c)} {L : List aad} (s : Sat B w (acA S.kt ρ id (.row c' zs) :: L)) (hq : amq c' c zs = some ys) : Sat B w (pcS S.kt (.row c ys) (aaz ρ (.sl id)) :: L) := by
  obtain ⟨e, he⟩ := af7 hq
  subst e
  subst he
  refine abg (fun k hk => ?_) s
  rw [aaL]
  exact ⟨(ρ.s id).a, (ρ.s id).c, by rw [← hk.1]; rfl, hk.2⟩
theorem aEv {id c : Nat} {xs : List (S.T c)} {L : List aad} (s : Sat B w (pcS S.kt (.row c xs) (aaz ρ (.sl id)) :: L)) : Sat B w (acA S.kt ρ id (.row c xs) :: L) := abg (fun k hk => by
  rw [aaL] at hk
  obtain ⟨A, cap, e, h⟩ := hk
  injection e with e1 e2 e3
  subst e1 e3
  exact ⟨e2, h⟩) s
theorem amC {Z : S.kt.H} : ∀ {ps : List Pk} {H H' : S.kt.H} {vs : List V} {x : akn S ps} {m : ay3 S ps}, awu S Z ps H vs = some (x, H', m) → ∀ {X : List aad}, Sat B w (dH S.kt ρ H ++ (dH S.kt ρ Z ++ X)) →
    aoJ S ρ ps m (aah ρ vs) ∧ Sat B w (apl S ps x (aah ρ vs) ++ (apn S ρ ps m ++ (dH S.kt ρ H' ++ (dH S.kt ρ Z ++ X))))
  | [], H, H', [], x, m, h, X, s => by cases h; exact ⟨trivial, s⟩
  | [], _, _, _ :: _, _, _, h, _, _ => by cases h
  | .sh _ :: _, _, _, [], _, _, h, _, _ => by cases h
  | .val _ :: _, _, _, [], _, _, h, _, _ => by cases h
  | .ref _ :: _, _, _, [], _, _, h, _, _ => by cases h
  | .mch :: _, _, _, [], _, _, h, _, _ => by cases h
  | .lent _ :: _, _, _, [], _, _, h, _, _ => by cases h
  | .sh s0 :: ps, H, H', v :: vs, x, m, h, X, s => by
    unfold awu at h
    split at h
    · rename_i y H1 h1
      split at h
      · rename_i r H2 m' h2
        cases h
        have s1 := ayS h1 s
        obtain ⟨l, s2⟩ := amC h2 (X := pcS S.kt (vw1 S.T S.M s0 y) (aaz ρ v) :: X) (s1.perm (aas fun f g h1 h2 h3 => by simp only [h1, h2, h3]; omega))
        exact ⟨l, s2.perm (aas fun f g h1 h2 h3 => by simp only [h1, h2, h3, apl, aah, List.cons_append, apn]; omega)⟩
      · cases h
    · cases h
  | .val c :: ps, H, H', v :: vs, x, m, h, X, s => by
    unfold awu at h
    split at h
    · rename_i y H1 h1
      split at h
      · rename_i r H2 m' h2
        cases h
        have s1 := ayU h1 s
        obtain ⟨l, s2⟩ := amC h2 (X := azo S c y (aaz ρ v) :: X) (s1.perm (aas fun f g h1 h2 h3 => by simp only [h1, h2, h3]; omega))
        exact ⟨l, s2.perm (aas fun f g h1 h2 h3 => by simp only [h1, h2, h3, apl, aah, List.cons_append, apn]; omega)⟩
      · cases h
    · cases h
  | .ref c :: ps, H, H', v :: vs, x, m, h, X, s => by
    unfold awu at h
    split at h
    · rename_i y H1 q h1
      split at h
      · rename_i r H2 m' h2
        cases h
        obtain ⟨hv, s1⟩ := ay0 h1 s
        have s1' : Sat B w (pcS S.kt (.own c y) (aaz ρ v) :: awr S ρ c q :: (dH S.kt ρ H1 ++ (dH S.kt ρ Z ++ X))) := abg (fun k hk => aaL.2 (show pcW S.kt (obS S.kt) (rwS S.kt) (.own c y) (aaz ρ v) k from ⟨_, hv, hk⟩)) s1
        obtain ⟨l, s2⟩ := amC h2 (X := pcS S.kt (.own c y) (aaz ρ v) :: awr S ρ c q :: X) (s1'.perm (aas fun f g h1 h2 h3 => by simp only [h1, h2, h3]; omega))
        exact ⟨⟨hv, l⟩, s2.perm (aas fun f g h1 h2 h3 => by simp only [h1, h2, h3, apl, aah, List.cons_append, apn]; omega)⟩
      · cases h
    · cases h
  | .mch :: ps, H, H', v :: vs, x, m, h, X, s => by
    unfold awu at h
    split at h
    · rename_i id
      split at h
      · rename_i y hg
        split at h
        · rename_i r H2 m' h2
          cases h
          have s1 := s.imp (aaW (ρ := ρ) hg)
          obtain ⟨l, s2⟩ := amC h2 (X := pcS S.kt (.mach y) (ρ.v id) :: X) (s1.perm (aas fun f g h1 h2 h3 => by simp only [h1, h2, h3, acA]; omega))
          exact ⟨⟨rfl, l⟩, s2.perm (aas fun f g h1 h2 h3 => by simp only [h1, h2, h3, apl, aah, aaz, List.cons_append, apn]; omega)⟩
        · cases h
      · cases h
    · cases h
  | .lent c :: ps, H, H', v :: vs, x, m, h, X, s => by
    unfold awu at h
    split at h
    · rename_i id
      split at h
      · rename_i c' zs hg
        split at h
        · rename_i ys hq
          split at h
          · rename_i r H2 m' h2
            cases h
            have s1 := aCn (s.imp (aaW (ρ := ρ) hg)) hq
            obtain ⟨l, s2⟩ := amC h2 (X := pcS S.kt (.row c ys) (aaz ρ (.sl id)) :: X) (s1.perm (aas fun f g h1 h2 h3 => by simp only [h1, h2, h3]; omega))
            exact ⟨⟨rfl, l⟩, s2.perm (aas fun f g h1 h2 h3 => by simp only [h1, h2, h3, apl, aah, List.cons_append, apn]; omega)⟩
          · cases h
        · cases h
      · cases h
    · cases h
theorem aEE {c : Nat} {x : S.T c} {q : Nat × Nat} {L : List aad} (s : Sat B w (pcS S.kt (.own c x) (.pointer (some ⟨q.1, q.2, none⟩)) :: L)) : Sat B w (obS S.kt c x q :: L) := abg (fun k hk => by
  rw [aaL] at hk
  obtain ⟨⟨a', b'⟩, e, h⟩ := hk
  obtain ⟨a, b⟩ := q
  cases e
  exact h) s
theorem ajg : ∀ {ps : List Pk} {H : S.kt.H} {m : ay3 S ps} {o : ai7 S ps} {vs : List Value} {X : List aad}, aoJ S ρ ps m vs → Sat B w (agX S ps o vs ++ (apn S ρ ps m ++ (dH S.kt ρ H ++ X))) → Sat B w (dH S.kt ρ (akQ S ps m o H) ++ X)
  | [], H, m, o, vs, X, _, s => by cases vs <;> exact s
  | p :: _, _, _, _, [], _, l, _ => by cases p <;> exact l.elim
  | .sh _ :: ps, H, m, o, v :: vs, X, l, s => ajg (ps := ps) l s
  | .val _ :: ps, H, m, o, v :: vs, X, l, s => ajg (ps := ps) l s
  | .ref c :: ps, H, m, o, v :: vs, X, l, s => by
    obtain ⟨hv, l'⟩ := l
    have s1 : Sat B w (agX S ps o.2 vs ++ (apn S ρ ps m.2 ++ (dH S.kt ρ H ++ (pcS S.kt (.own c o.1) v :: awr S ρ c m.1 :: X)))) := s.perm (aas fun f g h1 h2 h3 => by simp only [agX, apn, List.cons_append, h1, h2, h3]; omega)
    have s2 := ajg l' s1
    rw [hv] at s2
    have s3 := aEE (q := adq S ρ c m.1) (s2.perm (ajE (dH S.kt ρ (akQ S ps m.2 o.2 H)) [] _ _))
    exact av0 (s3.perm (aas fun f g h1 h2 h3 => by simp only [h1, h2, h3]; omega))
  | .mch :: ps, H, m, o, v :: vs, X, l, s => by
    obtain ⟨hv, l'⟩ := l
    have s1 : Sat B w (agX S ps o.2 vs ++ (apn S ρ ps m.2 ++ (dH S.kt ρ H ++ (pcS S.kt (.mach o.1) v :: X)))) := s.perm (aas fun f g h1 h2 h3 => by simp only [agX, apn, List.cons_append, h1, h2, h3]; omega)
    have s2 := ajg l' s1
    rw [hv] at s2
    exact s2.perm (aas fun f g h1 h2 h3 => by simp only [akQ, dH, List.map_cons, acA, List.cons_append, h1, h2, h3]; omega)
  | .lent c :: ps, H, m, o, v :: vs, X, l, s => by
    obtain ⟨hv, l'⟩ := l
    have s1 : Sat B w (agX S ps o.2 vs ++ (apn S ρ ps m.2 ++ (dH S.kt ρ H ++ (pcS S.kt (.row c o.1) v :: X)))) := s.perm (aas fun f g h1 h2 h3 => by simp only [agX, apn, List.cons_append, h1, h2, h3]; omega)
    have s2 := ajg l' s1
    rw [hv] at s2
    have s3 := aEv (s2.perm (ajE (dH S.kt ρ (akQ S ps m.2 o.2 H)) [] _ _))
    exact s3.perm (aas fun f g h1 h2 h3 => by simp only [akQ, dH, List.map_cons, List.cons_append, List.nil_append, h1, h2, h3]; try omega)
structure Con (S : Shp) where
  f : FuncId
  ps : List Pk
  rs : List Rk
  spec : akn S ps → Option (akq S rs × ai7 S ps)
def ayx (S : Shp) (c : Con S) {α : Type} (vs : List V) (n : Nat) (Z H : S.kt.H) (k : Nat → S.kt.H → V → Option α) : Option α :=
  match awu S Z c.ps (aG3 S.kt H) vs with
  | some (x, H1, m) => (c.spec x).bind fun out => match Nat.ble (ae8 (akQ S c.ps m out.2 H1)) n with
    | true => k (as8 S c.rs out.1 n).2.2 ((as8 S c.rs out.1 n).2.1 ++ akQ S c.ps m out.2 H1) (aBJ (as8 S c.rs out.1 n).1)
    | false => none
  | none => none
def aAB (S : Shp) : List (Con S) → FuncId → Option (Con S)
  | [], _ => none
  | c :: l, f => match Nat.beq c.f f with
    | true => some c
    | false => aAB S l f
def avM (S : Shp) (cs : List (Con S)) : ako S.kt := fun _ f vs n Z H k => match aAB S cs f with
  | some c => ayx S c vs n Z H k
  | none => none
theorem aAA {cs : List (Con S)} {f : FuncId} {c : Con S} (h : aAB S cs f = some c) : c ∈ cs ∧ c.f = f := by
  induction cs with
  | nil => cases h
  | cons d cs ih =>
    unfold aAB at h
    split at h
    · rename_i e; cases h; exact ⟨List.mem_cons_self .., Nat.eq_of_beq_eq_true e⟩
    · obtain ⟨h1, h2⟩ := ih h; exact ⟨List.mem_cons_of_mem _ h1, h2⟩
theorem aua : ∀ {rs : List Rk} {x : akq S rs} {n : Nat}, n ≤ (as8 S rs x n).2.2
  | [], _, _ => Nat.le_refl _
  | .sh _ :: rs, x, n => Nat.le_trans (Nat.le_succ n) (aua (rs := rs) (x := x.2))
  | .val c :: rs, x, n => Nat.le_trans (Nat.le_add_right ..) (aua (rs := rs) (x := x.2))
theorem asW [Tb] {P : Program} {W : World} (hg : aD2 B W) {cs : List (Con S)} (h : ∀ c ∈ cs, ay7 S P c.f c.ps c.rs c.spec) : aj2 S.kt P B W (avM S cs) := by
  intro α fid vs n Z H k out hk h1 h2 h3 F ρ w hw
  unfold avM at hk
  split at hk
  · rename_i c hc
    obtain ⟨hm, rfl⟩ := aAA hc
    unfold ayx at hk
    split at hk
    · rename_i x H1 m hx
      cases hsp : c.spec x with
      | none => rw [hsp] at hk; cases hk
      | some o =>
        rw [hsp] at hk
        simp only [Option.bind_some] at hk
        split at hk
        · rename_i hB
          have hB' := Nat.le_of_ble_eq_true hB
          obtain ⟨l, s1⟩ := amC hx (X := [F]) (aDG hw.2.2)
          have hcl : Cls B W (apl S c.ps x (aah ρ vs) ++ [aBZ (apn S ρ c.ps m ++ (dH S.kt ρ H1 ++ (dH S.kt ρ Z ++ [F])))]) w := ⟨hw.1, hw.2.1, s1.fold⟩
          refine afC.mono (h c hm x o hsp B W hg (aah ρ vs) _ w hcl) ?_
          rintro e w' ⟨us, he, hb1, hb2, hs⟩
          have s2 : Sat B w' (arE S c.rs o.1 us ++ (agX S c.ps o.2 (aah ρ vs) ++ (apn S ρ c.ps m ++ (dH S.kt ρ H1 ++ (dH S.kt ρ Z ++ [F]))))) := by
            rw [← List.append_assoc] at hs
            have := hs.unfold
            rwa [List.append_assoc] at this
          have s3 : Sat B w' (agX S c.ps o.2 (aah ρ vs) ++ (apn S ρ c.ps m ++ (dH S.kt ρ H1 ++ (arE S c.rs o.1 us ++ (dH S.kt ρ Z ++ [F]))))) := s2.perm (aas fun f g h1 h2 h3 => by simp only [h1, h2, h3]; omega)
          have s4 := ajg l s3
          have s5 : Sat B w' (arE S c.rs o.1 us ++ (fun ρ => dH S.kt ρ (akQ S c.ps m o.2 H1) ++ tl S.kt Z F ρ) ρ) := s4.perm (ac4 _ _ _)
          obtain ⟨ρ', a, e1, s6⟩ := at9 (n := n) (X := fun ρ => dH S.kt ρ (akQ S c.ps m o.2 H1) ++ tl S.kt Z F ρ) (fun ρ ρ' ha => by
            show _ ++ _ = _ ++ _
            rw [acg ha _ hB', ac5 h2 ha]) s5
          refine ⟨⟨ρ', _, _, _⟩, ⟨a, aua, hk⟩, ?_, hb1, hb2, ?_⟩
          · rw [he, e1, auy]; rfl
          · rw [dS, dHa, List.append_assoc]; exact s6
        · cases hk
    · cases hk
  · cases hk
end
section
variable {S : Shp}
variable [Tb]
def CO (P : Program) (c : Con S) : Prop := ay7 S P c.f c.ps c.rs c.spec
def Oks (P : Program) : List (Con S) → Prop
  | [] => True
  | c :: l => CO P c ∧ Oks P l
theorem Oks.mem {P : Program} : ∀ {l : List (Con S)}, Oks P l → ∀ c ∈ l, CO P c
  | [], _, c, h => by cases h
  | d :: l, ⟨h1, h2⟩, c, h => (List.mem_cons.1 h).elim (fun e => by subst e; exact h1) (h2.mem c)
def Tbs (P : Program) : List (Nat × Func) → Prop
  | [] => True
  | p :: l => P.funcs[p.1]? = some p.2 ∧ Tbs P l
theorem Tbs.mem {P : Program} : ∀ {l : List (Nat × Func)}, Tbs P l → ∀ p ∈ l, P.funcs[p.1]? = some p.2
  | [], _, c, h => by cases h
  | d :: l, ⟨h1, h2⟩, c, h => (List.mem_cons.1 h).elim (fun e => by subst e; exact h1) (h2.mem c)
noncomputable abbrev evC (P : Program) (tb : List (Nat × Func)) (hsf : Nat → List (Nat × Hint)) (cs : List (Con S)) (hs : List (Nat × Hint)) (fn : Func) (c : Con S) (x : akn S c.ps) : Option (akq S c.rs × ai7 S c.ps) :=
  evF S P (inl S P tb hsf (avM S cs) tb.length) hs fn (cin S c.ps x 0).1 (cin S c.ps x 0).2.2 [] (cin S c.ps x 0).2.1 (aDT S c.ps c.rs)
theorem aal {P : Program} (hm : P.follows .mixedOrders = true) {c : Con S} {fn : Func} (hf : P.funcs[c.f]? = some fn) (cs : List (Con S)) (h : Oks P cs) (tb : List (Nat × Func)) (ht : Tbs P tb) (hsf : Nat → List (Nat × Hint)) (hs : List (Nat × Hint))
    (he : ∀ x, evC P tb hsf cs hs fn c x = c.spec x) (hb : Nat.blt c.f agx = true := by rfl) : CO P c :=
  aAR hm hf (fun _ _ hg => aBn hm ht.mem (asW hg h.mem) tb.length) he hb
theorem aDE {P : Program} {c : Con S} (h : CO P c) {spec : akn S c.ps → Option (akq S c.rs × ai7 S c.ps)} (he : ∀ x out, spec x = some out → c.spec x = some out) : CO P ⟨c.f, c.ps, c.rs, spec⟩ := fun x out hx => h x out (he x out hx)
end
theorem ak9 {K : KT} {m : K.M} {p : Σ c : Nat, K.T c} (h : K.spl m = some p) {v : Value} {k : Hp} : pcS K (.mach m) v k ↔ ∃ q : Nat × Nat, v = .iface (K.tid p.1) (.pointer (some ⟨q.1, q.2, none⟩)) ∧ obS K p.1 p.2 q k := by
  rw [aaL]
  have e : pcW K (obS K) (rwS K) (.mach m) v k = (match K.spl m with
    | none => v = .nilIface
    | some p => ∃ q : Nat × Nat, v = .iface (K.tid p.1) (.pointer (some ⟨q.1, q.2, none⟩)) ∧ obS K p.1 p.2 q k) := rfl
  rw [e, h]
section
variable {S : Shp}
variable [Tb]
theorem aAS {P : Program} {f : FuncId} {call : ako S.kt} (hc : ∀ B W, aD2 B W → aj2 S.kt P B W call) {ps : List Pk} {rs : List Rk} {spec : akn S ps → Option (akq S rs × ai7 S ps)}
    (h : ∀ x, (match Nat.ble (ahu (cin S ps x 0).1) (cin S ps x 0).2.2 && Nat.ble (ae8 (cin S ps x 0).2.1) (cin S ps x 0).2.2 with
      | true => call _ f (cin S ps x 0).1 (cin S ps x 0).2.2 [] (cin S ps x 0).2.1 (aDT S ps rs)
      | false => none) = spec x) : ay7 S P f ps rs spec := by
  intro x out hx B W hg vs F w hw
  obtain ⟨ρ, _, e1, s1⟩ := ao8 (n := 0) (ρ := ⟨fun _ => (0, 0), fun _ => ⟨none, 0, 0⟩, fun _ => undef⟩) (X := fun _ => [F]) (fun _ _ _ => rfl) hw.2.2
  have s2 : Cls B W (dS S.kt ρ [] (cin S ps x 0).2.1 F) w := ⟨hw.1, hw.2.1, s1⟩
  have h0 := (h x).trans hx
  split at h0
  · rename_i hB
    simp only [Bool.and_eq_true] at hB
    have h1 := hc B W hg _ f _ _ _ _ _ _ h0 (Nat.le_of_ble_eq_true hB.1) (Nat.zero_le _) (Nat.le_of_ble_eq_true hB.2) F ρ w s2
    rw [← e1] at h1
    refine h1.mono fun e w' ⟨y, ⟨ha, hn, hk⟩, he, hb1, hb2, hs⟩ => ?_
    unfold aDT at hk
    split at hk
    · rename_i l hl
      split at hk
      · rename_i r H1 hr
        split at hk
        · rename_i o H2 ho
          cases hk
          have s3 := aro hr (X := [F]) (arb hs)
          have s4 : Sat B w' (dH S.kt y.ρ H1 ++ (arE S rs r (aah y.ρ l) ++ [F])) := s3.perm (ac4 _ _ _)
          have s5 := akm ho (ahT e1 ha).1 s4
          refine ⟨aah y.ρ l, ?_, hb1, hb2, ?_⟩
          · rw [he, auN hl]
          · have s6 := s5.perm (ac4 (agX S ps o vs) (dH S.kt y.ρ H2) (arE S rs r (aah y.ρ l) ++ [F]))
            have s7 : Sat B w' (agX S ps o vs ++ (arE S rs r (aah y.ρ l) ++ [F])) := s6.imp fun _ => agn
            exact s7.perm (ac4 _ _ _)
        · cases hk
      · cases hk
    · cases hk
  · cases h0
noncomputable abbrev asC (cs : List (Con S)) (c : Con S) (x : akn S c.ps) : Option (akq S c.rs × ai7 S c.ps) :=
  match Nat.ble (ahu (cin S c.ps x 0).1) (cin S c.ps x 0).2.2 && Nat.ble (ae8 (cin S c.ps x 0).2.1) (cin S c.ps x 0).2.2 with
  | true => avM S cs _ c.f (cin S c.ps x 0).1 (cin S c.ps x 0).2.2 [] (cin S c.ps x 0).2.1 (aDT S c.ps c.rs)
  | false => none
theorem acq {P : Program} {c : Con S} (cs : List (Con S)) (h : Oks P cs) (he : ∀ x, asC cs c x = c.spec x) : CO P c := aAS (fun _ _ hg => asW hg h.mem) he
def aBD (S : Shp) (P : Program) (i c : Nat) (f : FuncId) : Prop :=
  ∀ (b o : Nat) (rest : Array Value) (w : World), (callMethod (.iface (S.tid c) (.pointer (some ⟨b, o, none⟩))) (mN i) rest).run P w = .ok (.enter f (#[.pointer (some ⟨b, o, none⟩)] ++ rest)) w
def apw (S : Shp) (P : Program) (i : Nat) (ps : List Pk) (rs : List Rk) (m : S.M) (xs : akn S ps) (out : akq S rs × (S.M × ai7 S ps)) : Prop :=
  ∃ (c : Nat) (x y : S.T c) (k : Con S), S.spl m = some ⟨c, x⟩ ∧ S.spl out.2.1 = some ⟨c, y⟩ ∧ aBD S P i c k.f ∧ Nat.blt k.f agx = true ∧ CO P k ∧
    ∃ (e1 : k.ps = .ref c :: ps) (e2 : k.rs = rs), k.spec (e1 ▸ ((x, xs) : akn S (.ref c :: ps))) = some (e2 ▸ out.1, e1 ▸ ((y, out.2.2) : ai7 S (.ref c :: ps)))
theorem aiV {P : Program} {i : Nat} {ps : List Pk} {rs : List Rk} {spec : S.M → akn S ps → Option (akq S rs × (S.M × ai7 S ps))} (h : ∀ m xs out, spec m xs = some out → apw S P i ps rs m xs out) : CO P ⟨agx + i, .mch :: ps, rs, fun x => spec x.1 x.2⟩ := by
  intro x out hx B W hg vs F w hw
  obtain ⟨c, y0, y1, ⟨kf, kps, krs, ksp⟩, h1, h2, h3, h4, h5, e1, e2, h6⟩ := h x.1 x.2 out hx
  simp only at e1 e2 h3 h4
  subst e1
  subst e2
  obtain ⟨hb1, hb2, hs⟩ := hw
  rcases vs with _ | ⟨v, vs⟩
  · exact aaR hs
  have hs0 : Sat B w (pcS S.kt (.mach x.1) v :: (apl S ps x.2 vs ++ [F])) := hs
  have hs1 : Sat B w ((fun k => ∃ q : Nat × Nat, v = .iface (S.tid c) (.pointer (some ⟨q.1, q.2, none⟩)) ∧ obS S.kt c y0 q k) :: (apl S ps x.2 vs ++ [F])) := by
    exact abg (fun k hk => (ak9 (K := S.kt) h1).1 hk) hs0
  obtain ⟨⟨q1, q2⟩, hs2⟩ := alQ hs1
  obtain ⟨hh, Hh, j1, j2, ja, je, ⟨rfl, ho⟩, hL⟩ := hs2
  have hs3 : Sat B w (apl S (.ref c :: ps) (y0, x.2) (.pointer (some ⟨q1, q2, none⟩) :: vs) ++ [F]) := by
    refine ⟨hh, Hh, j1, j2, ja, je, ?_, hL⟩
    exact aaL.2 (show pcW S.kt (obS S.kt) (rwS S.kt) (.own c y0) _ _ from ⟨(q1, q2), rfl, ho⟩)
  have hcall := h5 (y0, x.2) _ h6 B W hg (.pointer (some ⟨q1, q2, none⟩) :: vs) F w ⟨hb1, hb2, hs3⟩
  rw [adY h4] at hcall
  show afC P (agx + i) _ _ _
  rw [apb]
  refine ⟨S.tid c, .pointer (some ⟨q1, q2, none⟩), vs.toArray, kf, by simp, fun w' => h3 q1 q2 _ w', ?_⟩
  have e3 : (#[Value.pointer (some ⟨q1, q2, none⟩)] ++ vs.toArray : Array Value) = (.pointer (some ⟨q1, q2, none⟩) :: vs).toArray := by simp
  rw [e3]
  refine hcall.mono fun e w' ⟨us, he, hc1, hc2, hs4⟩ => ⟨us, he, hc1, hc2, ?_⟩
  refine hs4.perm (List.perm_middle (l₁ := arE S krs out.1 us)) |> fun hs5 => ?_
  refine (abg (A := pcS S.kt (.own c y1) (.pointer (some ⟨q1, q2, none⟩))) (fun k hk => ?_) hs5).perm (List.perm_middle (l₁ := arE S krs out.1 us) (l₂ := agX S ps out.2.2 vs ++ [F])).symm
  rw [aaL] at hk
  obtain ⟨q, e, hk'⟩ := hk
  exact (ak9 (K := S.kt) h2).2 ⟨q, by rw [e], hk'⟩
def via {ps : List Pk} {rs : List Rk} {c : Nat} (mk : S.T c → S.M) (sp : akn S (.ref c :: ps) → Option (akq S rs × ai7 S (.ref c :: ps))) (x : S.T c) (xs : akn S ps) : Option (akq S rs × (S.M × ai7 S ps)) :=
  (sp (x, xs)).bind fun o => some (o.1, (mk o.2.1, o.2.2))
theorem aa9 {P : Program} {i : Nat} {ps : List Pk} {rs : List Rk} {c : Nat} {mk : S.T c → S.M} (hmk : ∀ y, S.spl (mk y) = some ⟨c, y⟩) {f : FuncId} {sp : akn S (.ref c :: ps) → Option (akq S rs × ai7 S (.ref c :: ps))} (hf : Nat.blt f agx = true) (hm : aBD S P i c f) (hc : CO P ⟨f, .ref c :: ps, rs, sp⟩)
    {x : S.T c} {xs : akn S ps} {out : akq S rs × (S.M × ai7 S ps)} (h : via mk sp x xs = some out) : apw S P i ps rs (mk x) xs out := by
  unfold via at h
  cases hs : sp (x, xs) with
  | none => rw [hs] at h; cases h
  | some o =>
    rw [hs] at h
    cases h
    exact ⟨c, x, o.2.1, ⟨f, .ref c :: ps, rs, sp⟩, hmk x, hmk _, hm, hf, hc, rfl, rfl, hs⟩
end
structure EnvV where
  c : Cfg
  m : MemV
  now : Int
  draw : Int
  recs : List RecV
  evs : List Ev
structure MaV where
  f : List FrV
  over : Bool
  code : Int
  value : Int
structure EngV where
  e : EnvV
  m : List MaV
  n : Int
  stamps : List Int
  last : AccV
structure CodV where
  inn : List Int
  out : List Int
  at_ : Int
  bad : Bool
structure FgV where
  acc : Int
  rej : Int
  spa : Int
  ref : Int
  sta : Int
  fin : Int
  ste : Int
  ski : Int
  boo : Int
  age : Int
  par : Int
  lat : Int
  wor : Int
  deriving DecidableEq
structure OutV where
  ended : Bool
  code : Int
  value : Int
  deriving DecidableEq
structure LayV where
  workers : Int
  levels : Int
  classes : Int
  tasks : Int
  deque : Int
  heap : Int
  sleepers : Int
  epochs : Int
  bitmaps : Int
  queues : Int
  table : Int
  deriving DecidableEq
structure ClkV where
  now : Int
  draw : Int
  deriving DecidableEq
structure RecP where
  prog : Int
  parent : Int
  pc : Int
  left : Int
  waiting : Int
  kids : List Int
  started : Bool
  deriving DecidableEq
structure EnvP where
  c : Cfg
  l : LayV
  m : MemV
  k : ClkV
  recs : List RecP
  evs : List Ev
structure B16 where
  b0 : Int
  b1 : Int
  b2 : Int
  b3 : Int
  b4 : Int
  b5 : Int
  b6 : Int
  b7 : Int
  b8 : Int
  b9 : Int
  b10 : Int
  b11 : Int
  b12 : Int
  b13 : Int
  b14 : Int
  b15 : Int
  deriving DecidableEq
structure ClientV (M : Type) where
  subs : List Sub
  me : Int
  i : Int
  line : Int
  inside : M
  fresh : Bool
  id : Int
  accepted : Bool
structure WorkerV (M : Type) where
  worker : Int
  cursor : Int
  line : Int
  inside : M
  victim : Int
  level : Int
  x : Int
structure SleepV where
  o : OutV
  worker : Int
  line : Int
  ep : Int
  v : Int
  since : Int
structure RunV (M : Type) where
  o : OutV
  worker : Int
  stack : List Int
  line : Int
  inside : M
  id : Int
  child : Int
  level : Int
  waiter : Int
structure AttemptV where
  o : OutV
  owner : Int
  once : Bool
structure AllocV where
  o : OutV
structure InsertV where
  o : OutV
  deadline : Int
  task : Int
  line : Int
  n : Int
  i : Int
  k : Int
  x : Int
structure ReleaseV where
  o : OutV
structure WakeV where
  o : OutV
  me : Int
  level : Int
  line : Int
  j : Int
  v : Int
structure TakeV (M : Type) where
  o : OutV
  worker : Int
  claiming : Bool
  inside : M
structure SweepV (M : Type) where
  o : OutV
  worker : Int
  task : Int
  line : Int
  q : Int
  push : M
structure DrainV (M : Type) where
  o : OutV
  worker : Int
  line : Int
  inside : M
  x : Int
  direct : Bool
  p : Int
  last : Int
  count : Int
structure StealV where
  o : OutV
  q : QV
  line : Int
  t : Int
  value : Int
structure ResetV where
  o : OutV
  cell : Int
  bit : Int
  q : QV
  line : Int
  b : Int
structure LPopV (M : Type) where
  o : OutV
  worker : Int
  level : Int
  line : Int
  inside : M
structure ClaimV where
  o : OutV
  worker : Int
  task : Int
structure ProbeV where
  o : OutV
  worker : Int
  begun : Bool
  start : Int
  next : Int
  bm : B16
structure LPushV (M : Type) where
  o : OutV
  worker : Int
  level : Int
  value : Int
  line : Int
  inside : M
structure WalkV (M : Type) where
  o : OutV
  worker : Int
  task : Int
  level : Int
  line : Int
  inside : M
structure EnterV (M : Type) where
  o : OutV
  worker : Int
  task : Int
  level : Int
  line : Int
  push : M
structure PublishV where
  o : OutV
  task : Int
  level : Int
  line : Int
structure RemoveV where
  o : OutV
  worker : Int
  line : Int
  n : Int
  i : Int
  c : Int
  x : Int
  y : Int
  z : Int
structure OPopV where
  o : OutV
  q : QV
  line : Int
  b : Int
  t : Int
structure OPushV where
  o : OutV
  q : QV
  value : Int
  line : Int
  b : Int
structure SetV where
  o : OutV
  cell : Int
  bit : Int
structure RaiseV where
  o : OutV
  worker : Int
  task : Int
  level : Int
  line : Int
  q : Int
inductive MV where
  | nil
  | client (x : ClientV MV)
  | worker (x : WorkerV MV)
  | sleep (x : SleepV)
  | run (x : RunV MV)
  | attempt (x : AttemptV)
  | alloc (x : AllocV)
  | insert (x : InsertV)
  | release (x : ReleaseV)
  | wake (x : WakeV)
  | take (x : TakeV MV)
  | sweep (x : SweepV MV)
  | drain (x : DrainV MV)
  | steal (x : StealV)
  | reset (x : ResetV)
  | lpop (x : LPopV MV)
  | claim (x : ClaimV)
  | probe (x : ProbeV)
  | lpush (x : LPushV MV)
  | walk (x : WalkV MV)
  | enter (x : EnterV MV)
  | publish (x : PublishV)
  | remove (x : RemoveV)
  | opop (x : OPopV)
  | opush (x : OPushV)
  | set (x : SetV)
  | raise (x : RaiseV)
structure EngP where
  e : EnvP
  ws : List (WorkerV MV)
  cl : ClientV MV
  ms : List Unit
  n : Int
  stamps : List Int
  last : AccV
def TR : Nat → Type
  | 0 => Int
  | 1 => Int
  | 2 => Ev
  | 3 => Ins
  | 4 => Sub
  | 5 => EntV
  | 6 => St
  | 7 => RecV
  | 8 => FrV
  | 9 => MemV
  | 10 => ResV
  | 11 => MaV
  | 12 => EnvV
  | 13 => Cfg
  | 14 => QV
  | 15 => MaV
  | 16 => EngV
  | 17 => Int
  | 18 => List Ins
  | 19 => CodV
  | 20 => Cfg
  | 21 => FgV
  | 22 => List Int
  | 23 => OutV
  | 24 => LayV
  | 25 => ClkV
  | 26 => RecP
  | 27 => EnvP
  | 28 => MV
  | 30 => ClientV MV
  | 31 => WorkerV MV
  | 32 => SleepV
  | 33 => RunV MV
  | 34 => AttemptV
  | 35 => AllocV
  | 36 => InsertV
  | 37 => ReleaseV
  | 38 => WakeV
  | 39 => TakeV MV
  | 40 => SweepV MV
  | 41 => DrainV MV
  | 42 => StealV
  | 43 => ResetV
  | 44 => LPopV MV
  | 45 => ClaimV
  | 46 => ProbeV
  | 47 => LPushV MV
  | 48 => WalkV MV
  | 49 => EnterV MV
  | 50 => PublishV
  | 51 => RemoveV
  | 52 => OPopV
  | 53 => OPushV
  | 54 => SetV
  | 55 => RaiseV
  | 56 => (WorkerV MV)
  | 57 => Unit
  | 58 => EngP
  | 60 => AccV
  | _ => Unit
abbrev sI_ : Sh := .i .i64
abbrev sU_ : Sh := .i .u64
def shR : Nat → List Sh
  | 0 => [sU_]
  | 1 => [sI_]
  | 2 => [sI_, sI_, sI_, sI_, sI_]
  | 3 => [sI_, sI_, sI_]
  | 4 => [sI_, sI_, sI_]
  | 5 => [sI_, sI_]
  | 6 => [sI_, sI_, sI_, sI_, sI_, sI_]
  | 7 => [sI_, sI_, sI_, sI_, sI_, .ro 1, .b]
  | 8 => [sI_, sI_, sI_, sI_, sI_, sI_, sI_, sI_, sI_, sI_, sI_, sI_, sI_, sU_, sU_, sU_, sU_, .ro 1]
  | 9 => [.row 0, sI_, sI_, sU_, sU_, sI_]
  | 10 => [.b, sI_, sI_]
  | 11 => [.row 8, .b, sI_, sI_]
  | 12 => [sI_, sI_, sI_, sI_, sI_, sI_, sI_, sI_, sI_, .rr 3, .ro 4, .row 0, sI_, sI_, sU_, sU_, sI_, sI_, sI_, .row 7, .row 2]
  | 13 => [sI_, sI_, sI_, sI_, sI_, sI_, sI_, sI_, sI_, .rr 3, .ro 4]
  | 14 => [sI_, sI_, sI_, sI_]
  | 15 => [.own 11]
  | 16 => [.own 12, .row 15, sI_, .row 1, sI_, sI_, sU_, sU_]
  | 17 => [.i .u8]
  | 18 => [.ro 3]
  | 19 => [.ro 17, .ro 17, sI_, .b]
  | 20 => [sI_, sI_, sI_, sI_, sI_, sI_, sI_, sI_, sI_, .row 18, .row 4]
  | 21 => [sI_, sI_, sI_, sI_, sI_, sI_, sI_, sI_, sI_, sI_, sI_, sI_, sI_]
  | 22 => [.ro 1]
  | 23 => [.b, sI_, sI_]
  | 24 => [sI_, sI_, sI_, sI_, sI_, sI_, sI_, sI_, sI_, sI_, sI_]
  | 25 => [sI_, sI_]
  | 26 => [sI_, sI_, sI_, sI_, sI_, .row 1, .b]
  | 27 => [sI_, sI_, sI_, sI_, sI_, sI_, sI_, sI_, sI_, .rr 3, .ro 4, sI_, sI_, sI_, sI_, sI_, sI_, sI_, sI_, sI_, sI_, sI_, .own 9, .own 25, .row 26, .row 2]
  | 28 => [.mach]
  | 30 => [.ro 4, sI_, sI_, sI_, .mach, .b, sI_, .b]
  | 31 => [sI_, sI_, sI_, .mach, sI_, sI_, sI_]
  | 32 => [.b, sI_, sI_, sI_, sI_, sU_, sI_, sI_]
  | 33 => [.b, sI_, sI_, sI_, .row 1, sI_, .mach, sI_, sI_, sI_, sI_]
  | 34 => [.b, sI_, sI_, sI_, .b]
  | 35 => [.b, sI_, sI_]
  | 36 => [.b, sI_, sI_, sI_, sI_, sI_, sI_, sI_, sU_, sU_]
  | 37 => [.b, sI_, sI_]
  | 38 => [.b, sI_, sI_, sI_, sI_, sI_, sI_, sI_]
  | 39 => [.b, sI_, sI_, sI_, .b, .mach]
  | 40 => [.b, sI_, sI_, sI_, sI_, sI_, sU_, .mach]
  | 41 => [.b, sI_, sI_, sI_, sI_, .mach, sI_, .b, sI_, sI_, sI_]
  | 42 => [.b, sI_, sI_, sI_, sI_, sI_, sI_, sI_, sU_, sU_]
  | 43 => [.b, sI_, sI_, sI_, sI_, sI_, sI_, sI_, sI_, sI_, sU_]
  | 44 => [.b, sI_, sI_, sI_, sI_, sI_, .mach]
  | 45 => [.b, sI_, sI_, sI_, sI_]
  | 46 => [.b, sI_, sI_, sI_, .b, sI_, sI_, sU_, sU_, sU_, sU_, sU_, sU_, sU_, sU_, sU_, sU_, sU_, sU_, sU_, sU_, sU_, sU_]
  | 47 => [.b, sI_, sI_, sI_, sI_, sI_, sI_, .mach]
  | 48 => [.b, sI_, sI_, sI_, sI_, sI_, sI_, .mach]
  | 49 => [.b, sI_, sI_, sI_, sI_, sI_, sI_, .mach]
  | 50 => [.b, sI_, sI_, sI_, sI_, sI_]
  | 51 => [.b, sI_, sI_, sI_, sI_, sI_, sI_, sI_, sU_, sU_, sU_]
  | 52 => [.b, sI_, sI_, sI_, sI_, sI_, sI_, sI_, sU_, sU_]
  | 53 => [.b, sI_, sI_, sI_, sI_, sI_, sI_, sI_, sI_, sU_]
  | 54 => [.b, sI_, sI_, sI_, sI_]
  | 55 => [.b, sI_, sI_, sI_, sI_, sI_, sI_, sU_]
  | 56 => [.own 31]
  | 57 => [.o]
  | 58 => [.own 27, .row 56, .own 30, .row 57, sI_, .row 1, sI_, sI_, sU_, sU_]
  | 60 => [sI_, sI_, sU_, sU_]
  | _ => []
def toR : (c : Nat) → TR c → HL TR MV (shR c)
  | 0 => fun x => (x, ())
  | 1 => fun x => (x, ())
  | 2 => fun x => (x.kind, x.worker, x.task, x.other, x.level, ())
  | 3 => fun x => (x.op, x.a, x.b, ())
  | 4 => fun x => (x.prog, x.level, x.deadline, ())
  | 5 => fun x => (x.kind, x.value, ())
  | 6 => fun x => (x.at_, x.ev.kind, x.ev.worker, x.ev.task, x.ev.other, x.ev.level, ())
  | 7 => fun x => (x.prog, x.parent, x.pc, x.left, x.waiting, x.kids, x.started, ())
  | 8 => fun x => (x.kind, x.line, x.q.top, x.q.bottom, x.q.ring, x.q.cap, x.a, x.b, x.d, x.i, x.j, x.n, x.t, x.u, x.v, x.w, x.x, x.l, ())
  | 9 => fun x => (x.cells, x.last.kind, x.last.cell, x.last.old, x.last.new, x.count, ())
  | 10 => fun x => (x.done, x.code, x.value, ())
  | 11 => fun x => (x.f, x.over, x.code, x.value, ())
  | 12 => fun x => (x.c.workers, x.c.levels, x.c.classes, x.c.tasks, x.c.deque, x.c.heap, x.c.batch, x.c.age, x.c.patience, x.c.progs, x.c.subs, x.m.cells, x.m.last.kind, x.m.last.cell, x.m.last.old, x.m.last.new, x.m.count, x.now, x.draw, x.recs, x.evs, ())
  | 13 => fun x => (x.workers, x.levels, x.classes, x.tasks, x.deque, x.heap, x.batch, x.age, x.patience, x.progs, x.subs, ())
  | 14 => fun x => (x.top, x.bottom, x.ring, x.cap, ())
  | 15 => fun x => (x, ())
  | 16 => fun x => (x.e, x.m, x.n, x.stamps, x.last.kind, x.last.cell, x.last.old, x.last.new, ())
  | 17 => fun x => (x, ())
  | 18 => fun x => (x, ())
  | 19 => fun x => (x.inn, x.out, x.at_, x.bad, ())
  | 20 => fun x => (x.workers, x.levels, x.classes, x.tasks, x.deque, x.heap, x.batch, x.age, x.patience, x.progs, x.subs, ())
  | 21 => fun x => (x.acc, x.rej, x.spa, x.ref, x.sta, x.fin, x.ste, x.ski, x.boo, x.age, x.par, x.lat, x.wor, ())
  | 22 => fun x => (x, ())
  | 23 => fun x => (x.ended, x.code, x.value, ())
  | 24 => fun x => (x.workers, x.levels, x.classes, x.tasks, x.deque, x.heap, x.sleepers, x.epochs, x.bitmaps, x.queues, x.table, ())
  | 25 => fun x => (x.now, x.draw, ())
  | 26 => fun x => (x.prog, x.parent, x.pc, x.left, x.waiting, x.kids, x.started, ())
  | 27 => fun x => (x.c.workers, x.c.levels, x.c.classes, x.c.tasks, x.c.deque, x.c.heap, x.c.batch, x.c.age, x.c.patience, x.c.progs, x.c.subs, x.l.workers, x.l.levels, x.l.classes, x.l.tasks, x.l.deque, x.l.heap, x.l.sleepers, x.l.epochs, x.l.bitmaps, x.l.queues, x.l.table, x.m, x.k, x.recs, x.evs, ())
  | 28 => fun x => (x, ())
  | 30 => fun x => (x.subs, x.me, x.i, x.line, x.inside, x.fresh, x.id, x.accepted, ())
  | 31 => fun x => (x.worker, x.cursor, x.line, x.inside, x.victim, x.level, x.x, ())
  | 32 => fun x => (x.o.ended, x.o.code, x.o.value, x.worker, x.line, x.ep, x.v, x.since, ())
  | 33 => fun x => (x.o.ended, x.o.code, x.o.value, x.worker, x.stack, x.line, x.inside, x.id, x.child, x.level, x.waiter, ())
  | 34 => fun x => (x.o.ended, x.o.code, x.o.value, x.owner, x.once, ())
  | 35 => fun x => (x.o.ended, x.o.code, x.o.value, ())
  | 36 => fun x => (x.o.ended, x.o.code, x.o.value, x.deadline, x.task, x.line, x.n, x.i, x.k, x.x, ())
  | 37 => fun x => (x.o.ended, x.o.code, x.o.value, ())
  | 38 => fun x => (x.o.ended, x.o.code, x.o.value, x.me, x.level, x.line, x.j, x.v, ())
  | 39 => fun x => (x.o.ended, x.o.code, x.o.value, x.worker, x.claiming, x.inside, ())
  | 40 => fun x => (x.o.ended, x.o.code, x.o.value, x.worker, x.task, x.line, x.q, x.push, ())
  | 41 => fun x => (x.o.ended, x.o.code, x.o.value, x.worker, x.line, x.inside, x.x, x.direct, x.p, x.last, x.count, ())
  | 42 => fun x => (x.o.ended, x.o.code, x.o.value, x.q.top, x.q.bottom, x.q.ring, x.q.cap, x.line, x.t, x.value, ())
  | 43 => fun x => (x.o.ended, x.o.code, x.o.value, x.cell, x.bit, x.q.top, x.q.bottom, x.q.ring, x.q.cap, x.line, x.b, ())
  | 44 => fun x => (x.o.ended, x.o.code, x.o.value, x.worker, x.level, x.line, x.inside, ())
  | 45 => fun x => (x.o.ended, x.o.code, x.o.value, x.worker, x.task, ())
  | 46 => fun x => (x.o.ended, x.o.code, x.o.value, x.worker, x.begun, x.start, x.next, x.bm.b0, x.bm.b1, x.bm.b2, x.bm.b3, x.bm.b4, x.bm.b5, x.bm.b6, x.bm.b7, x.bm.b8, x.bm.b9, x.bm.b10, x.bm.b11, x.bm.b12, x.bm.b13, x.bm.b14, x.bm.b15, ())
  | 47 => fun x => (x.o.ended, x.o.code, x.o.value, x.worker, x.level, x.value, x.line, x.inside, ())
  | 48 => fun x => (x.o.ended, x.o.code, x.o.value, x.worker, x.task, x.level, x.line, x.inside, ())
  | 49 => fun x => (x.o.ended, x.o.code, x.o.value, x.worker, x.task, x.level, x.line, x.push, ())
  | 50 => fun x => (x.o.ended, x.o.code, x.o.value, x.task, x.level, x.line, ())
  | 51 => fun x => (x.o.ended, x.o.code, x.o.value, x.worker, x.line, x.n, x.i, x.c, x.x, x.y, x.z, ())
  | 52 => fun x => (x.o.ended, x.o.code, x.o.value, x.q.top, x.q.bottom, x.q.ring, x.q.cap, x.line, x.b, x.t, ())
  | 53 => fun x => (x.o.ended, x.o.code, x.o.value, x.q.top, x.q.bottom, x.q.ring, x.q.cap, x.value, x.line, x.b, ())
  | 54 => fun x => (x.o.ended, x.o.code, x.o.value, x.cell, x.bit, ())
  | 55 => fun x => (x.o.ended, x.o.code, x.o.value, x.worker, x.task, x.level, x.line, x.q, ())
  | 56 => fun x => (x, ())
  | 57 => fun x => (x, ())
  | 58 => fun x => (x.e, x.ws, x.cl, x.ms, x.n, x.stamps, x.last.kind, x.last.cell, x.last.old, x.last.new, ())
  | 60 => fun x => (x.kind, x.cell, x.old, x.new, ())
  | 29 => fun _ => ()
  | 59 => fun _ => ()
  | _ + 61 => fun _ => ()
def ofR : (c : Nat) → HL TR MV (shR c) → TR c
  | 0 => fun p => p.1
  | 1 => fun p => p.1
  | 2 => fun ⟨a, b, c, d, e, _⟩ => ⟨a, b, c, d, e⟩
  | 3 => fun ⟨a, b, c, _⟩ => ⟨a, b, c⟩
  | 4 => fun ⟨a, b, c, _⟩ => ⟨a, b, c⟩
  | 5 => fun ⟨a, b, _⟩ => ⟨a, b⟩
  | 6 => fun ⟨z, a, b, c, d, e, _⟩ => ⟨z, ⟨a, b, c, d, e⟩⟩
  | 7 => fun ⟨a, b, c, d, e, f, g, _⟩ => ⟨a, b, c, d, e, f, g⟩
  | 8 => fun ⟨a, b, q1, q2, q3, q4, c, d, e, f, g, h, i, j, k, l, m, n, _⟩ => ⟨a, b, ⟨q1, q2, q3, q4⟩, c, d, e, f, g, h, i, j, k, l, m, n⟩
  | 9 => fun ⟨a, b, c, d, e, f, _⟩ => ⟨a, ⟨b, c, d, e⟩, f⟩
  | 10 => fun ⟨a, b, c, _⟩ => ⟨a, b, c⟩
  | 11 => fun ⟨a, b, c, d, _⟩ => ⟨a, b, c, d⟩
  | 12 => fun ⟨a1, a2, a3, a4, a5, a6, a7, a8, a9, a10, a11, b1, b2, b3, b4, b5, b6, c, d, e, f, _⟩ => ⟨⟨a1, a2, a3, a4, a5, a6, a7, a8, a9, a10, a11⟩, ⟨b1, ⟨b2, b3, b4, b5⟩, b6⟩, c, d, e, f⟩
  | 13 => fun ⟨a1, a2, a3, a4, a5, a6, a7, a8, a9, a10, a11, _⟩ => ⟨a1, a2, a3, a4, a5, a6, a7, a8, a9, a10, a11⟩
  | 14 => fun ⟨a, b, c, d, _⟩ => ⟨a, b, c, d⟩
  | 15 => fun p => p.1
  | 16 => fun ⟨a, b, c, d, l1, l2, l3, l4, _⟩ => ⟨a, b, c, d, ⟨l1, l2, l3, l4⟩⟩
  | 17 => fun p => p.1
  | 18 => fun p => p.1
  | 19 => fun ⟨a, b, c, d, _⟩ => ⟨a, b, c, d⟩
  | 20 => fun ⟨a1, a2, a3, a4, a5, a6, a7, a8, a9, a10, a11, _⟩ => ⟨a1, a2, a3, a4, a5, a6, a7, a8, a9, a10, a11⟩
  | 21 => fun ⟨a0, a1, a2, a3, a4, a5, a6, a7, a8, a9, a10, a11, a12, _⟩ => ⟨a0, a1, a2, a3, a4, a5, a6, a7, a8, a9, a10, a11, a12⟩
  | 22 => fun p => p.1
  | 23 => fun ⟨a0, a1, a2, _⟩ => ⟨a0, a1, a2⟩
  | 24 => fun ⟨a0, a1, a2, a3, a4, a5, a6, a7, a8, a9, a10, _⟩ => ⟨a0, a1, a2, a3, a4, a5, a6, a7, a8, a9, a10⟩
  | 25 => fun ⟨a0, a1, _⟩ => ⟨a0, a1⟩
  | 26 => fun ⟨a0, a1, a2, a3, a4, a5, a6, _⟩ => ⟨a0, a1, a2, a3, a4, a5, a6⟩
  | 27 => fun ⟨a0, a1, a2, a3, a4, a5, a6, a7, a8, a9, a10, a11, a12, a13, a14, a15, a16, a17, a18, a19, a20, a21, a22, a23, a24, a25, _⟩ => ⟨⟨a0, a1, a2, a3, a4, a5, a6, a7, a8, a9, a10⟩, ⟨a11, a12, a13, a14, a15, a16, a17, a18, a19, a20, a21⟩, a22, a23, a24, a25⟩
  | 28 => fun p => p.1
  | 30 => fun ⟨a0, a1, a2, a3, a4, a5, a6, a7, _⟩ => ⟨a0, a1, a2, a3, a4, a5, a6, a7⟩
  | 31 => fun ⟨a0, a1, a2, a3, a4, a5, a6, _⟩ => ⟨a0, a1, a2, a3, a4, a5, a6⟩
  | 32 => fun ⟨a0, a1, a2, a3, a4, a5, a6, a7, _⟩ => ⟨⟨a0, a1, a2⟩, a3, a4, a5, a6, a7⟩
  | 33 => fun ⟨a0, a1, a2, a3, a4, a5, a6, a7, a8, a9, a10, _⟩ => ⟨⟨a0, a1, a2⟩, a3, a4, a5, a6, a7, a8, a9, a10⟩
  | 34 => fun ⟨a0, a1, a2, a3, a4, _⟩ => ⟨⟨a0, a1, a2⟩, a3, a4⟩
  | 35 => fun ⟨a0, a1, a2, _⟩ => ⟨⟨a0, a1, a2⟩⟩
  | 36 => fun ⟨a0, a1, a2, a3, a4, a5, a6, a7, a8, a9, _⟩ => ⟨⟨a0, a1, a2⟩, a3, a4, a5, a6, a7, a8, a9⟩
  | 37 => fun ⟨a0, a1, a2, _⟩ => ⟨⟨a0, a1, a2⟩⟩
  | 38 => fun ⟨a0, a1, a2, a3, a4, a5, a6, a7, _⟩ => ⟨⟨a0, a1, a2⟩, a3, a4, a5, a6, a7⟩
  | 39 => fun ⟨a0, a1, a2, a3, a4, a5, _⟩ => ⟨⟨a0, a1, a2⟩, a3, a4, a5⟩
  | 40 => fun ⟨a0, a1, a2, a3, a4, a5, a6, a7, _⟩ => ⟨⟨a0, a1, a2⟩, a3, a4, a5, a6, a7⟩
  | 41 => fun ⟨a0, a1, a2, a3, a4, a5, a6, a7, a8, a9, a10, _⟩ => ⟨⟨a0, a1, a2⟩, a3, a4, a5, a6, a7, a8, a9, a10⟩
  | 42 => fun ⟨a0, a1, a2, a3, a4, a5, a6, a7, a8, a9, _⟩ => ⟨⟨a0, a1, a2⟩, ⟨a3, a4, a5, a6⟩, a7, a8, a9⟩
  | 43 => fun ⟨a0, a1, a2, a3, a4, a5, a6, a7, a8, a9, a10, _⟩ => ⟨⟨a0, a1, a2⟩, a3, a4, ⟨a5, a6, a7, a8⟩, a9, a10⟩
  | 44 => fun ⟨a0, a1, a2, a3, a4, a5, a6, _⟩ => ⟨⟨a0, a1, a2⟩, a3, a4, a5, a6⟩
  | 45 => fun ⟨a0, a1, a2, a3, a4, _⟩ => ⟨⟨a0, a1, a2⟩, a3, a4⟩
  | 46 => fun ⟨a0, a1, a2, a3, a4, a5, a6, a7, a8, a9, a10, a11, a12, a13, a14, a15, a16, a17, a18, a19, a20, a21, a22, _⟩ => ⟨⟨a0, a1, a2⟩, a3, a4, a5, a6, ⟨a7, a8, a9, a10, a11, a12, a13, a14, a15, a16, a17, a18, a19, a20, a21, a22⟩⟩
  | 47 => fun ⟨a0, a1, a2, a3, a4, a5, a6, a7, _⟩ => ⟨⟨a0, a1, a2⟩, a3, a4, a5, a6, a7⟩
  | 48 => fun ⟨a0, a1, a2, a3, a4, a5, a6, a7, _⟩ => ⟨⟨a0, a1, a2⟩, a3, a4, a5, a6, a7⟩
  | 49 => fun ⟨a0, a1, a2, a3, a4, a5, a6, a7, _⟩ => ⟨⟨a0, a1, a2⟩, a3, a4, a5, a6, a7⟩
  | 50 => fun ⟨a0, a1, a2, a3, a4, a5, _⟩ => ⟨⟨a0, a1, a2⟩, a3, a4, a5⟩
  | 51 => fun ⟨a0, a1, a2, a3, a4, a5, a6, a7, a8, a9, a10, _⟩ => ⟨⟨a0, a1, a2⟩, a3, a4, a5, a6, a7, a8, a9, a10⟩
  | 52 => fun ⟨a0, a1, a2, a3, a4, a5, a6, a7, a8, a9, _⟩ => ⟨⟨a0, a1, a2⟩, ⟨a3, a4, a5, a6⟩, a7, a8, a9⟩
  | 53 => fun ⟨a0, a1, a2, a3, a4, a5, a6, a7, a8, a9, _⟩ => ⟨⟨a0, a1, a2⟩, ⟨a3, a4, a5, a6⟩, a7, a8, a9⟩
  | 54 => fun ⟨a0, a1, a2, a3, a4, _⟩ => ⟨⟨a0, a1, a2⟩, a3, a4⟩
  | 55 => fun ⟨a0, a1, a2, a3, a4, a5, a6, a7, _⟩ => ⟨⟨a0, a1, a2⟩, a3, a4, a5, a6, a7⟩
  | 56 => fun p => p.1
  | 57 => fun p => p.1
  | 58 => fun ⟨a0, a1, a2, a3, a4, a5, a6, a7, a8, a9, _⟩ => ⟨a0, a1, a2, a3, a4, a5, ⟨a6, a7, a8, a9⟩⟩
  | 60 => fun ⟨a0, a1, a2, a3, _⟩ => ⟨a0, a1, a2, a3⟩
  | 29 => fun _ => ()
  | 59 => fun _ => ()
  | _ + 61 => fun _ => ()
def dfR : (c : Nat) → TR c
  | 0 => (default : Int)
  | 1 => (default : Int)
  | 2 => (default : Ev)
  | 3 => (default : Ins)
  | 4 => (default : Sub)
  | 5 => (default : EntV)
  | 6 => ⟨0, default⟩
  | 7 => (default : RecV)
  | 8 => (default : FrV)
  | 9 => (default : MemV)
  | 10 => (default : ResV)
  | 11 => ⟨[], false, 0, 0⟩
  | 12 => ⟨⟨0, 0, 0, 0, 0, 0, 0, 0, 0, [], []⟩, default, 0, 0, [], []⟩
  | 13 => ⟨0, 0, 0, 0, 0, 0, 0, 0, 0, [], []⟩
  | 14 => (default : QV)
  | 15 => ⟨[], false, 0, 0⟩
  | 16 => ⟨⟨⟨0, 0, 0, 0, 0, 0, 0, 0, 0, [], []⟩, default, 0, 0, [], []⟩, [], 0, [], default⟩
  | 17 => (default : Int)
  | 18 => []
  | 19 => ⟨[], [], 0, false⟩
  | 20 => ⟨0, 0, 0, 0, 0, 0, 0, 0, 0, [], []⟩
  | 21 => ⟨0, 0, 0, 0, 0, 0, 0, 0, 0, 0, 0, 0, 0⟩
  | 22 => []
  | 23 => ⟨false, 0, 0⟩
  | 24 => ⟨0, 0, 0, 0, 0, 0, 0, 0, 0, 0, 0⟩
  | 25 => ⟨0, 0⟩
  | 26 => ⟨0, 0, 0, 0, 0, [], false⟩
  | 27 => ⟨⟨0, 0, 0, 0, 0, 0, 0, 0, 0, [], []⟩, ⟨0, 0, 0, 0, 0, 0, 0, 0, 0, 0, 0⟩, default, ⟨0, 0⟩, [], []⟩
  | 28 => MV.nil
  | 30 => ⟨[], 0, 0, 0, .nil, false, 0, false⟩
  | 31 => ⟨0, 0, 0, .nil, 0, 0, 0⟩
  | 32 => ⟨⟨false, 0, 0⟩, 0, 0, 0, 0, 0⟩
  | 33 => ⟨⟨false, 0, 0⟩, 0, [], 0, .nil, 0, 0, 0, 0⟩
  | 34 => ⟨⟨false, 0, 0⟩, 0, false⟩
  | 35 => ⟨⟨false, 0, 0⟩⟩
  | 36 => ⟨⟨false, 0, 0⟩, 0, 0, 0, 0, 0, 0, 0⟩
  | 37 => ⟨⟨false, 0, 0⟩⟩
  | 38 => ⟨⟨false, 0, 0⟩, 0, 0, 0, 0, 0⟩
  | 39 => ⟨⟨false, 0, 0⟩, 0, false, .nil⟩
  | 40 => ⟨⟨false, 0, 0⟩, 0, 0, 0, 0, .nil⟩
  | 41 => ⟨⟨false, 0, 0⟩, 0, 0, .nil, 0, false, 0, 0, 0⟩
  | 42 => ⟨⟨false, 0, 0⟩, ⟨0, 0, 0, 0⟩, 0, 0, 0⟩
  | 43 => ⟨⟨false, 0, 0⟩, 0, 0, ⟨0, 0, 0, 0⟩, 0, 0⟩
  | 44 => ⟨⟨false, 0, 0⟩, 0, 0, 0, .nil⟩
  | 45 => ⟨⟨false, 0, 0⟩, 0, 0⟩
  | 46 => ⟨⟨false, 0, 0⟩, 0, false, 0, 0, ⟨0, 0, 0, 0, 0, 0, 0, 0, 0, 0, 0, 0, 0, 0, 0, 0⟩⟩
  | 47 => ⟨⟨false, 0, 0⟩, 0, 0, 0, 0, .nil⟩
  | 48 => ⟨⟨false, 0, 0⟩, 0, 0, 0, 0, .nil⟩
  | 49 => ⟨⟨false, 0, 0⟩, 0, 0, 0, 0, .nil⟩
  | 50 => ⟨⟨false, 0, 0⟩, 0, 0, 0⟩
  | 51 => ⟨⟨false, 0, 0⟩, 0, 0, 0, 0, 0, 0, 0, 0⟩
  | 52 => ⟨⟨false, 0, 0⟩, ⟨0, 0, 0, 0⟩, 0, 0, 0⟩
  | 53 => ⟨⟨false, 0, 0⟩, ⟨0, 0, 0, 0⟩, 0, 0, 0⟩
  | 54 => ⟨⟨false, 0, 0⟩, 0, 0⟩
  | 55 => ⟨⟨false, 0, 0⟩, 0, 0, 0, 0, 0⟩
  | 56 => ⟨0, 0, 0, .nil, 0, 0, 0⟩
  | 57 => ()
  | 58 => ⟨(dfR 27), [], (dfR 30), [], 0, [], ⟨0, 0, 0, 0⟩⟩
  | 60 => ⟨0, 0, 0, 0⟩
  | 29 => ()
  | 59 => ()
  | _ + 61 => ()
abbrev aeA (xs : List Int) (i : Int) : Int := atL (dfR 0 : TR 0) xs i
abbrev aik (xs : List Int) (i : Int) : Int := atL (dfR 1 : TR 1) xs i
abbrev aF2 (xs : List Ev) (i : Int) : Ev := atL (dfR 2 : TR 2) xs i
abbrev acn (xs : List Ins) (i : Int) : Ins := atL (dfR 3 : TR 3) xs i
abbrev abS (xs : List Sub) (i : Int) : Sub := atL (dfR 4 : TR 4) xs i
abbrev ap0 (xs : List EntV) (i : Int) : EntV := atL (dfR 5 : TR 5) xs i
abbrev aAW (xs : List St) (i : Int) : St := atL (dfR 6 : TR 6) xs i
abbrev aij (xs : List Int) (i : Int) : Int := atL (dfR 17 : TR 17) xs i
abbrev ayR (xs : List (List Ins)) (i : Int) : List Ins := atL (dfR 18 : TR 18) xs i
abbrev aab (xs : List RecP) (i : Int) : RecP := atL (dfR 26 : TR 26) xs i
abbrev aGT (xs : List MV) (i : Int) : MV := atL (dfR 28 : TR 28) xs i
theorem aBK : ∀ c p, toR c (ofR c p) = p
  | 0, _ => rfl
  | 1, _ => rfl
  | 2, _ => rfl
  | 3, _ => rfl
  | 4, _ => rfl
  | 5, _ => rfl
  | 6, _ => rfl
  | 7, _ => rfl
  | 8, _ => rfl
  | 9, _ => rfl
  | 10, _ => rfl
  | 11, _ => rfl
  | 12, _ => rfl
  | 13, _ => rfl
  | 14, _ => rfl
  | 15, _ => rfl
  | 16, _ => rfl
  | 17, _ => rfl
  | 18, _ => rfl
  | 19, _ => rfl
  | 20, _ => rfl
  | 21, _ => rfl
  | 22, _ => rfl
  | 23, _ => rfl
  | 24, _ => rfl
  | 25, _ => rfl
  | 26, _ => rfl
  | 27, _ => rfl
  | 28, _ => rfl
  | 30, _ => rfl
  | 31, _ => rfl
  | 32, _ => rfl
  | 33, _ => rfl
  | 34, _ => rfl
  | 35, _ => rfl
  | 36, _ => rfl
  | 37, _ => rfl
  | 38, _ => rfl
  | 39, _ => rfl
  | 40, _ => rfl
  | 41, _ => rfl
  | 42, _ => rfl
  | 43, _ => rfl
  | 44, _ => rfl
  | 45, _ => rfl
  | 46, _ => rfl
  | 47, _ => rfl
  | 48, _ => rfl
  | 49, _ => rfl
  | 50, _ => rfl
  | 51, _ => rfl
  | 52, _ => rfl
  | 53, _ => rfl
  | 54, _ => rfl
  | 55, _ => rfl
  | 56, _ => rfl
  | 57, _ => rfl
  | 58, _ => rfl
  | 60, _ => rfl
  | 29, _ => rfl
  | 59, _ => rfl
  | _ + 61, _ => rfl
def lsR : (c c' : Nat) → Option (PLift (TR c' = List (TR c)))
  | 3, 18 => some ⟨rfl⟩
  | 1, 22 => some ⟨rfl⟩
  | _, _ => none
theorem aFb : ∀ c c' h, lsR c c' = some h → ∀ x, vwP TR MV (shR c') (toR c' x) = [.ro c (h.down ▸ x)] := by
  intro c c' h hl x
  unfold lsR at hl
  split at hl
  · rfl
  · rfl
  · cases hl
def aGY : MV → Option (Σ c : Nat, TR c)
  | .nil => none
  | .client x => some ⟨30, x⟩
  | .worker x => some ⟨31, x⟩
  | .sleep x => some ⟨32, x⟩
  | .run x => some ⟨33, x⟩
  | .attempt x => some ⟨34, x⟩
  | .alloc x => some ⟨35, x⟩
  | .insert x => some ⟨36, x⟩
  | .release x => some ⟨37, x⟩
  | .wake x => some ⟨38, x⟩
  | .take x => some ⟨39, x⟩
  | .sweep x => some ⟨40, x⟩
  | .drain x => some ⟨41, x⟩
  | .steal x => some ⟨42, x⟩
  | .reset x => some ⟨43, x⟩
  | .lpop x => some ⟨44, x⟩
  | .claim x => some ⟨45, x⟩
  | .probe x => some ⟨46, x⟩
  | .lpush x => some ⟨47, x⟩
  | .walk x => some ⟨48, x⟩
  | .enter x => some ⟨49, x⟩
  | .publish x => some ⟨50, x⟩
  | .remove x => some ⟨51, x⟩
  | .opop x => some ⟨52, x⟩
  | .opush x => some ⟨53, x⟩
  | .set x => some ⟨54, x⟩
  | .raise x => some ⟨55, x⟩
def mkR : (c : Nat) → TR c → Option MV
  | 30, x => some (.client x)
  | 31, x => some (.worker x)
  | 32, x => some (.sleep x)
  | 33, x => some (.run x)
  | 34, x => some (.attempt x)
  | 35, x => some (.alloc x)
  | 36, x => some (.insert x)
  | 37, x => some (.release x)
  | 38, x => some (.wake x)
  | 39, x => some (.take x)
  | 40, x => some (.sweep x)
  | 41, x => some (.drain x)
  | 42, x => some (.steal x)
  | 43, x => some (.reset x)
  | 44, x => some (.lpop x)
  | 45, x => some (.claim x)
  | 46, x => some (.probe x)
  | 47, x => some (.lpush x)
  | 48, x => some (.walk x)
  | 49, x => some (.enter x)
  | 50, x => some (.publish x)
  | 51, x => some (.remove x)
  | 52, x => some (.opop x)
  | 53, x => some (.opush x)
  | 54, x => some (.set x)
  | 55, x => some (.raise x)
  | _, _ => none
theorem aE6 : ∀ c x m, mkR c x = some m → aGY m = some ⟨c, x⟩ := by
  intro c x m h
  unfold mkR at h
  split at h <;> first | (cases h; rfl) | cases h
def aGa (td : List (Nat × TypeId)) (c : Nat) : TypeId := (get td c).getD 0
def kdR (td : List (Nat × TypeId)) (t : TypeId) : List (Nat × TypeId) → Option Nat
  | [] => none
  | p :: l => match Nat.beq p.2 t && Nat.beq (aGa td p.1) t with
   | true => some p.1
   | false => kdR td t l
theorem aBm {td : List (Nat × TypeId)} {t : TypeId} : ∀ {l : List (Nat × TypeId)} {c : Nat}, kdR td t l = some c → aGa td c = t
  | [], _, h => by cases h
  | p :: l, c, h => by
    unfold kdR at h
    split at h
    · rename_i hb
      cases h
      simp only [Bool.and_eq_true] at hb
      exact Nat.eq_of_beq_eq_true hb.2
    · exact aBm h
def SR (tk : TypeId → Option Nat) (td : List (Nat × TypeId)) : Shp := { T := TR, M := MV, sh := shR, to_ := toR, of := ofR, ok := aBK, df := dfR, tid := aGa td, tk := tk, spl := aGY, nilM := .nil, nilM_ok := rfl, mkM := mkR, mkM_ok := aE6, kd := fun t => kdR td t td, kd_ok := fun _ _ h => aBm h, ls := lsR, ls_ok := (fun c c' h e x => Or.inl (aFb c c' h e x)) }
end
section
open Go Go.RowKit
set_option maxRecDepth 100000
def tkR : TypeId → Option Nat := fun t => get [(3, 1), (5, 17), (27, 13), (38, 0), (41, 14), (44, 22), (50, 2), (52, 6), (57, 5), (65, 24), (71, 27), (77, 60), (88, 19), (89, 18), (91, 3), (93, 4), (106, 9), (108, 30), (110, 31), (119, 26), (121, 25), (125, 23), (127, 32), (166, 34), (169, 35), (172, 36), (174, 37), (177, 38), (189, 39), (192, 40), (195, 41), (198, 42), (201, 43), (205, 33), (208, 44), (211, 45), (215, 46), (231, 47), (234, 51), (246, 48), (249, 49), (252, 50), (255, 52), (260, 53), (263, 54), (268, 55), (1000075, 28)] t
def tdR : List (Nat × TypeId) := [(30, 74), (31, 80), (32, 122), (34, 164), (35, 167), (36, 170), (37, 173), (38, 175), (39, 187), (40, 190), (41, 193), (42, 196), (43, 199), (33, 202), (44, 206), (45, 209), (46, 212), (47, 229), (51, 232), (48, 244), (49, 247), (50, 250), (52, 253), (53, 258), (54, 261), (55, 266)]
abbrev SR1 := SR tkR tdR
theorem aak : Tryz.prog.follows .mixedOrders = true := by kernel_rfl
def air : ByteArray := ⟨#[0, 1, 2, 2, 3, 3, 3, 3, 4, 4, 4, 4, 4, 4, 4, 4, 5, 5, 5, 5, 5, 5, 5, 5, 5, 5, 5, 5, 5, 5, 5, 5, 6, 6, 6, 6, 6, 6, 6, 6, 6, 6, 6, 6, 6, 6, 6, 6, 6, 6, 6, 6, 6, 6, 6, 6, 6, 6, 6, 6, 6, 6, 6, 6, 7, 7, 7, 7, 7, 7, 7, 7, 7, 7, 7, 7, 7, 7, 7, 7, 7, 7, 7, 7, 7, 7, 7, 7, 7, 7, 7, 7, 7, 7, 7, 7, 7, 7, 7, 7, 7, 7, 7, 7, 7, 7, 7, 7, 7, 7, 7, 7, 7, 7, 7, 7, 7, 7, 7, 7, 7, 7, 7, 7, 7, 7, 7, 7, 8, 8, 8, 8, 8, 8, 8, 8, 8, 8, 8, 8, 8, 8, 8, 8, 8, 8, 8, 8, 8, 8, 8, 8, 8, 8, 8, 8, 8, 8, 8, 8, 8, 8, 8, 8, 8, 8, 8, 8, 8, 8, 8, 8, 8, 8, 8, 8, 8, 8, 8, 8, 8, 8, 8, 8, 8, 8, 8, 8, 8, 8, 8, 8, 8, 8, 8, 8, 8, 8, 8, 8, 8, 8, 8, 8, 8, 8, 8, 8, 8, 8, 8, 8, 8, 8, 8, 8, 8, 8, 8, 8, 8, 8, 8, 8, 8, 8, 8, 8, 8, 8, 8, 8, 8, 8, 8, 8, 8, 8, 8, 8, 8, 8, 8, 8, 8, 8, 8, 8, 8, 8, 8, 8, 8, 8, 8, 8]⟩
def tlI (l : List Int) : Int := wi (((l.length : Nat) : Int) - 1)
noncomputable def tpI (l : List Int) : Int := aik l (wi (((l.length : Nat) : Int) - 1))
end
section
open Go Go.RowKit
section
variable {B : Nat} {w w' : World} {L : List aad} {A : Option Addr} {n cap sz : Nat} {xs : List Value} {el : TypeId}
theorem an9 (s : Sat B w L) (hb : Below w.heap.size w w') (hB : B ≤ w.heap.size) (ho : w'.ownsRow w.heap.size el sz (.slice A n cap) n xs) : Sat B w' (aeQ A n cap sz xs :: L) := by
  obtain ⟨hl, ho⟩ := ho
  rcases ho with ⟨e, hn⟩ | ⟨g, cap', cur, e, hg, hh, h1, h2, h3, h4⟩
  · injection e with e1 e2 e3
    subst e1 e2 e3
    have hx : xs = [] := List.length_eq_zero_iff.1 (by rw [hl]; simp)
    subst hx
    exact (s.below hb).imp (aq5 sz)
  · injection e with e1 e2 e3
    subst e1 e3
    obtain ⟨h, H, hs⟩ := s.below hb
    obtain ⟨h', H', hs'⟩ := s
    refine ⟨adk (fun b o => if b = g ∧ o < cur.size then (cur[o]?).map Item.cell else none) h', ?_, _, h', ?_, rfl, ?_, hs'⟩
    · intro b o x hx
      unfold adk at hx
      by_cases hc : b = g ∧ o < cur.size
      · simp only [if_pos hc] at hx
        obtain ⟨rfl, ho⟩ := hc
        rw [Array.getElem?_eq_getElem ho] at hx
        obtain rfl := Option.some.inj hx
        refine ⟨.inl (by omega), ?_, ?_⟩
        · unfold World.cell?; rw [hh]; simp [ho]
        · unfold World.frozen?; simp [hh]
      · simp only [if_neg hc] at hx
        obtain ⟨q1, q2⟩ := H' b o x hx
        exact ⟨q1, q2.same (hb.block _ q2.lt)⟩
    · intro b o
      by_cases hc : b = g ∧ o < cur.size
      · refine .inr (.inl ?_)
        cases hv : h' b o with
        | none => rfl
        | some x => have := (H' b o x hv).2.lt; omega
      · exact .inl (if_neg hc)
    · refine ⟨hl, h1, h2, .inr ⟨g, 0, cur.toList.drop (n * sz), rfl, ?_, ?_⟩⟩
      · rw [List.length_drop, Array.length_toList, h3, Nat.sub_mul]
      · rw [← h4, List.take_append_drop]
        intro i v hi
        rw [Array.getElem?_toList] at hi
        have hlt := (Array.getElem?_eq_some_iff.1 hi).1
        show (if g = g ∧ 0 + i < cur.size then (cur[0 + i]?).map Item.cell else none) = some (.cell v)
        rw [Nat.zero_add, if_pos ⟨rfl, hlt⟩, hi]; rfl
end
section
variable {α : Type} {enc : α → List Value} {sz B : Nat} {w : World} {A : Option Addr} {c : Nat} {xs : List α} {L : List aad}
theorem aEl (hz : 0 < sz) (henc : ∀ x, (enc x).length = sz) (hS : Sl enc sz w B A xs) (hc : xs.length ≤ c) (s : Sat B w L) : Sat B w (roS enc sz A c xs :: L) := by
  obtain ⟨h, H, hs⟩ := s
  refine ⟨adk (fun b o => if b < B then (w.cell? ⟨b, o, none⟩).map .look else none) h, ?_, _, h, ?_, rfl, ?_, hs⟩
  · intro b o x hx
    unfold adk at hx
    by_cases hb : b < B
    · simp only [if_pos hb] at hx
      cases hv : w.cell? ⟨b, o, none⟩ with
      | none => rw [hv] at hx; exact H b o x hx
      | some v =>
        rw [hv] at hx
        obtain rfl := Option.some.inj hx
        exact ⟨.inr trivial, hv⟩
    · simp only [if_neg hb] at hx
      exact H b o x hx
  · intro b o
    by_cases hb : b < B
    · simp only [if_pos hb]
      cases hv : w.cell? ⟨b, o, none⟩ with
      | none => exact .inl rfl
      | some v =>
        cases hh : h b o with
        | none => exact .inr (.inl rfl)
        | some y =>
          obtain ⟨h1, h2⟩ := H b o y hh
          cases y with
          | cell v' => exact absurd (h1.resolve_right id) (by omega)
          | obj v' => exact absurd (h1.resolve_right id) (by omega)
          | look v' =>
            have h3 : w.cell? ⟨b, o, none⟩ = some v' := h2
            rw [hv] at h3
            obtain rfl := Option.some.inj h3
            exact .inr (.inr ⟨v, rfl, rfl⟩)
    · simp only [if_neg hb]; exact .inl rfl
  · refine ⟨fun b o => if b < B then (w.cell? ⟨b, o, none⟩).map .look else none, fun b o x hx => ⟨?_, hx⟩, fun u hu => ⟨⟨hS.1, fun hne => ?_⟩, hc⟩⟩
    · by_cases hb : b < B
      · simp only [if_pos hb] at hx
        cases hv : w.cell? ⟨b, o, none⟩ with
        | none => rw [hv] at hx; cases hx
        | some v => rw [hv] at hx; exact ⟨v, (Option.some.inj hx).symm⟩
      · simp only [if_neg hb] at hx; cases hx
    · obtain ⟨b, o, hA, hb, hcell⟩ := hS.2 hne
      have key : ∀ (i : Nat) x, xs[i]? = some x → ∀ (j : Nat) v, (enc x)[j]? = some v → u.cell? ⟨b, o + i * sz + j, none⟩ = some v := fun i x hx j v hv => by
        have h1 := hcell i x hx j v hv
        exact hu b (o + i * sz + j) (.look v) (by simp only [if_pos hb, h1]; rfl)
      refine ⟨b, o, hA, ?_, key⟩
      cases xs with
      | nil => exact absurd rfl hne
      | cons x xs =>
        cases hx : enc x with
        | nil => have := henc x; rw [hx] at this; simp at this; omega
        | cons y ys => exact apQ (key 0 x rfl 0 y (by rw [hx]; rfl))
end
section
variable {S : Shp} {B : Nat} {w : World} {L : List aad} {v : Value}
theorem akW {f : Fl S.T S.M} {p : aad} (h0 : ∀ h, pcW S.kt (fun _ _ _ _ => False) (fun _ _ _ _ _ => False) f v h → p h) (h1 : ∀ n h, pcW S.kt (obW S.kt (pcN S.kt n)) (rwW S.kt (pcN S.kt n)) f v h → p h) : ∀ h, pcS S.kt f v h → p h := fun h ⟨n, hn⟩ => by
  cases n with
  | zero => exact h0 h hn
  | succ n => exact h1 n h hn
theorem aGe {k : IntKind} {x : Int} (s : Sat B w (pcS S.kt (.i k x) v :: L)) : v = .int k x ∧ Sat B w L := by
  have s1 : Sat B w (am9 (v = .int k x) :: L) := abg (akW (f := .i k x) (fun _ h => h) fun _ _ h => h) s
  obtain ⟨h, H, k1, k2, a, e, h1, h2⟩ := s1
  exact ⟨h1, s.drop⟩
theorem aA6 {c : Nat} {xs : List (S.T c)} (s : Sat B w (pcS S.kt (.ro c xs) v :: L)) : ∃ A cap, v = .slice A xs.length cap ∧ Sl (aeP S.kt c) (S.kt.sz c) w w.heap.size A xs := by
  have s1 : Sat B w ((fun h => ∃ A cap, v = .slice A xs.length cap ∧ roS (aeP S.kt c) (S.kt.sz c) A cap xs h) :: L) := abg (akW (f := .ro c xs) (fun _ h => h) fun _ _ h => h) s
  obtain ⟨h, H, k1, k2, a, e, ⟨A, cap, e1, h1⟩, h2⟩ := s1
  have s2 : Sat B w (roS (aeP S.kt c) (S.kt.sz c) A cap xs :: L) := ⟨h, H, k1, k2, a, e, h1, h2⟩
  exact ⟨A, cap, e1, (atn s2 List.mem_cons_self).1⟩
theorem aEk {c : Nat} {xss : List (List (S.T c))} (s : Sat B w (pcS S.kt (.rr c xss) v :: L)) : ∃ A cap, v = .slice A xss.length cap ∧ xss.length ≤ 9223372036854775807 ∧ ∃ ps : List (Option Addr × Nat),
    ∀ (i : Nat) xs, xss[i]? = some xs → ∃ a, ps[i]? = some a ∧ (Sl (aeP S.kt c) (S.kt.sz c) w w.heap.size a.1 xs ∧ xs.length ≤ a.2) ∧ ∃ b o, A = some ⟨b, o, none⟩ ∧ b < w.heap.size ∧ w.cell? ⟨b, o + i, none⟩ = some (.slice a.1 xs.length a.2) := by
  have s1 : Sat B w ((fun h => ∃ A cap, v = .slice A xss.length cap ∧ rrS (aeP S.kt c) (S.kt.sz c) A cap xss h) :: L) := abg (akW (f := .rr c xss) (fun _ h => h) fun _ _ h => h) s
  obtain ⟨h, H, k1, k2, a, e, ⟨A, cap, e1, ps, h1⟩, h2⟩ := s1
  have s2 : Sat B w (aeO _ :: L) := ⟨h, H, k1, k2, a, e, h1, h2⟩
  have h3 := alb s2 List.mem_cons_self
  exact ⟨A, cap, e1, h3.1.1, ps, h3.2⟩
theorem aw2 {f : Fl S.T S.M} {fs : List (Fl S.T S.M)} {us : List Value} (s : Sat B w (fsS (pcS S.kt) (f :: fs) us ++ L)) : ∃ u us', us = u :: us' ∧ Sat B w (pcS S.kt f u :: (fsS (pcS S.kt) fs us' ++ L)) := by
  cases us with
  | nil => exact aaR s
  | cons u us' => exact ⟨u, us', rfl, s⟩
theorem aCf {us : List Value} (s : Sat B w (fsS (pcS S.kt) [] us ++ L)) : us = [] ∧ Sat B w L := by
  cases us with
  | nil => exact ⟨rfl, s⟩
  | cons u us' => exact aaR s
theorem akD {k : IntKind} {x : Int} {fs : List (Fl S.T S.M)} {us : List Value} (s : Sat B w (fsS (pcS S.kt) (.i k x :: fs) us ++ L)) : ∃ us', us = .int k x :: us' ∧ Sat B w (fsS (pcS S.kt) fs us' ++ L) := by
  obtain ⟨u, us', e, s1⟩ := aw2 s
  obtain ⟨e2, s2⟩ := aGe s1
  subst e2
  exact ⟨us', e, s2⟩
def av2 : List (Fl S.T S.M) → Bool
  | [] => true
  | .i .. :: l => av2 l
  | .b .. :: l => av2 l
  | _ => false
theorem alP : ∀ (fs : List (Fl S.T S.M)) (h : Hp), av2 fs = true → abN (fsS (pcS S.kt) fs (fs.map flV)) h
  | [], _, _ => trivial
  | .i k x :: l, h, hp => ⟨fun _ _ => none, h, fun _ _ => .inl rfl, by funext a b; rfl, ⟨0, rfl⟩, alP l h hp⟩
  | .b x :: l, h, hp => ⟨fun _ _ => none, h, fun _ _ => .inl rfl, by funext a b; rfl, ⟨0, rfl⟩, alP l h hp⟩
theorem aEm {k : IntKind} {x : Int} (s : Sat B w L) : Sat B w (pcS S.kt (.i k x) (.int k x) :: L) := abi s fun _ => ⟨0, rfl⟩
end
section
variable {S : Shp} {B : Nat} {w : World} {L : List aad}
theorem arU {c : Nat} (hp : ∀ x, av2 (S.kt.vw c x) = true) : ∀ (xs : List (S.T c)) (h : Hp), abN (acr S.kt (pcS S.kt) c xs (xs.map (aeP S.kt c))) h
  | [], _ => trivial
  | x :: xs, h => aam.2 ⟨fun _ _ => none, h, fun _ _ => .inl rfl, by funext a b; rfl, alP _ _ (hp x), arU hp xs h⟩
theorem aqg {c cap : Nat} {A : Option Addr} {xs : List (S.T c)} (hp : ∀ x, av2 (S.kt.vw c x) = true) (s : Sat B w (aeQ A xs.length cap (S.kt.sz c) (xs.flatMap (aeP S.kt c)) :: L)) : Sat B w (pcS S.kt (.row c xs) (.slice A xs.length cap) :: L) := by
  refine abg (fun k hk => aaL.2 (show pcW S.kt (obS S.kt) (rwS S.kt) (.row c xs) _ k from ⟨A, cap, rfl, adn.2 ⟨xs.map (aeP S.kt c), ?_⟩⟩)) s
  have e : (xs.map (aeP S.kt c)).flatten = xs.flatMap (aeP S.kt c) := by rw [List.flatMap_def]
  rw [e]
  exact ⟨k, fun _ _ => none, fun _ _ => .inr (.inl rfl), by funext a b; unfold adk; cases k a b <;> rfl, hk, arU hp xs _⟩
end
section
variable {B : Nat} {w : World} {L : List aad} {v : Value}
theorem aCg {c : Cfg} (s : Sat B w (azo SR1 13 c v :: L)) : ∃ p, v = as9 c p ∧ alH w w.heap.size c p ∧ Sat B w L := by
  obtain ⟨us, e, s0⟩ := atj s
  have s0' : Sat B w (fsS (pcS SR1.kt) [.i .i64 c.workers, .i .i64 c.levels, .i .i64 c.classes, .i .i64 c.tasks, .i .i64 c.deque, .i .i64 c.heap, .i .i64 c.batch, .i .i64 c.age, .i .i64 c.patience, .rr 3 c.progs, .ro 4 c.subs] us ++ L) := s0
  obtain ⟨us1, rfl, s1⟩ := akD s0'
  obtain ⟨us2, rfl, s2⟩ := akD s1
  obtain ⟨us3, rfl, s3⟩ := akD s2
  obtain ⟨us4, rfl, s4⟩ := akD s3
  obtain ⟨us5, rfl, s5⟩ := akD s4
  obtain ⟨us6, rfl, s6⟩ := akD s5
  obtain ⟨us7, rfl, s7⟩ := akD s6
  obtain ⟨us8, rfl, s8⟩ := akD s7
  obtain ⟨us9, rfl, s9⟩ := akD s8
  obtain ⟨u10, us10, rfl, s10⟩ := aw2 s9
  obtain ⟨A, ca, rfl, hl, ps, hA⟩ := aEk s10
  obtain ⟨u11, us11, rfl, s11⟩ := aw2 s10.drop
  obtain ⟨A2, ca2, rfl, hA2⟩ := aA6 s11
  obtain ⟨rfl, s12⟩ := aCf s11.drop
  refine ⟨⟨A, ca, A2, ca2⟩, e, ⟨⟨hl, fun hne => ?_⟩, hA2⟩, s12⟩
  cases hp : c.progs with
  | nil => exact absurd hp hne
  | cons x xs =>
    obtain ⟨a0, _, _, b, o, e1, hb, _⟩ := hA 0 x (by rw [hp]; rfl)
    refine ⟨b, o, e1, hb, fun i p hi => ?_⟩
    obtain ⟨a1, g1, g2, b', o', e2, hb', hc'⟩ := hA i p (by rw [hp]; exact hi)
    rw [e1] at e2
    cases e2
    exact ⟨a1.1, a1.2, hc', g2.1⟩
end
end
section
open Go.ChangeShapes Go.WideShapes Go.RowKit Go.Deep
theorem awQ {w : World} {a : Addr} {v : Value} (h : w.cell? a = some v) : a = ⟨a.block, a.off, none⟩ ∧ a.block < w.heap.size := by
  unfold World.cell? at h
  split at h
  · rename_i hb
    split at h
    · cases h
    · rename_i hs
      refine ⟨?_, ?_⟩
      · cases a with
        | mk b o s => cases s with
          | none => rfl
          | some k => simp at hs
      · rcases Nat.lt_or_ge a.block w.heap.size with h1 | h1
        · exact h1
        · rw [Array.getElem?_eq_none h1] at hb; cases hb
  · cases h
theorem aAZ (b o n : Nat) : (⟨b, o, none⟩ : Addr).add n = ⟨b, o + n, none⟩ := by
  unfold Addr.add; split
  · rename_i h; simp [h]
  · rfl
theorem ajT {α : Type} (Y : Nat → Option α) : ∀ len, (∀ i, i < len → ∃ z, Y i = some z) → ((List.range len).filterMap Y).length = len ∧ ∀ i, i < len → ((List.range len).filterMap Y)[i]? = Y i
  | 0, _ => by simp
  | k + 1, h => by
    obtain ⟨z, hz⟩ := h k (by omega)
    have hk := ajT Y k (fun i hi => h i (by omega))
    have e1 : List.filterMap Y [k] = [z] := by simp [hz]
    rw [List.range_succ, List.filterMap_append, e1]
    refine ⟨by simp [hk.1], fun i hi => ?_⟩
    rcases Nat.lt_or_ge i k with h1 | h1
    · rw [List.getElem?_append_left (by rw [hk.1]; exact h1)]; exact hk.2 i h1
    · have e : i = k := by omega
      subst e
      rw [List.getElem?_append_right (by rw [hk.1]; omega), hk.1, hz]; simp
section
variable {H : Type} {enc : TypeId × Value → H} {P : Program} {w : World} {base : Nat} {spare : Nat → Bool} {held : Bool}
theorem awY {α : Type} {en : α → List Value} {sz : Nat} {Q : α → Prop} {t e : TypeId} {fuel : Nat} {cs : List Value} {x : DataW H × List MemPlace} (ht : P.underlying t = some (.slice e)) (hC : P.cellsOf e = sz) (hsz : 0 < sz)
    (hel : ∀ n cs' d, DataW.trod enc P w base spare held n e cs' = some d → cs'.length = sz → ∃ y : α, Q y ∧ cs' = en y) (h : DataW.trod enc P w base spare held fuel t cs = some x) :
    ∃ A cap xs, cs = [.slice A xs.length cap] ∧ Sl en sz w w.heap.size A xs ∧ (∀ y ∈ xs, Q y) ∧ xs.length ≤ cap := by
  rcases open_slice ht h with ⟨h0, _⟩ | ⟨a, len, cap, m, n, D, Pl, hcs, hb, hl, hm, hmm, hx, hi⟩
  · exact ⟨none, 0, [], h0, Sl.nil, by simp, Nat.le_refl _⟩
  · have hm0 : len ≤ m := by rw [hmm]; split <;> omega
    have hY : ∀ i, ∃ y : Option α, i < len → ∃ z, y = some z ∧ Q z ∧ ∀ j u, (en z)[j]? = some u → w.cell? (a.add (i * sz + j)) = some u := by
      intro i
      by_cases hil : i < len
      · obtain ⟨cs', hc, ht'⟩ := hi i (by omega)
        rw [hC] at hc
        obtain ⟨_, hcl, hat⟩ := World.cells?_some hc
        obtain ⟨y, hq, rfl⟩ := hel n cs' _ ht' hcl
        refine ⟨some y, fun _ => ⟨y, rfl, hq, fun j u hu => ?_⟩⟩
        have hj : j < sz := by
          rcases Nat.lt_or_ge j sz with h1 | h1
          · exact h1
          · rw [List.getElem?_eq_none (by omega)] at hu; cases hu
        rw [← Go.Deep.add_add, hat j hj, hu]
      · exact ⟨none, fun h => absurd h hil⟩
    obtain ⟨Y, hY⟩ := Classical.axiomOfChoice hY
    have hlen := ajT Y len (fun i hi => (hY i hi).imp fun z h => h.1)
    refine ⟨some a, cap, (List.range len).filterMap Y, by rw [hcs, hlen.1], ⟨by rw [hlen.1]; simp only [maxLen] at hm; omega, fun hne => ?_⟩, fun y hy => ?_, by rw [hlen.1]; exact hl⟩
    · have hpos : 0 < len := by
        rw [← hlen.1]; exact List.length_pos_iff.2 hne
      obtain ⟨cs', hc, _⟩ := hi 0 (by omega)
      rw [hC] at hc
      obtain ⟨_, hcl, hat⟩ := World.cells?_some hc
      have h00 := hat 0 hsz
      rw [List.getElem?_eq_getElem (by omega)] at h00
      have hs := awQ h00
      have ea : (a.add (0 * sz)).add 0 = a := by simp [Addr.add]
      rw [ea] at hs
      refine ⟨a.block, a.off, by rw [← hs.1], hs.2, fun i z hz j u hu => ?_⟩
      have hil : i < len := by
        rcases Nat.lt_or_ge i len with h1 | h1
        · exact h1
        · rw [List.getElem?_eq_none (by rw [hlen.1]; exact h1)] at hz; cases hz
      obtain ⟨z', hz', _, hcell⟩ := hY i hil
      rw [hlen.2 i hil, hz'] at hz
      injection hz with hz
      subst hz
      have := hcell j u hu
      rw [hs.1, aAZ] at this
      rw [Nat.add_assoc]
      exact this
    · obtain ⟨i, hi1, hi2⟩ := List.mem_filterMap.1 hy
      obtain ⟨z, hz, hq, _⟩ := hY i (List.mem_range.1 hi1)
      rw [hz] at hi2
      injection hi2 with hi2
      rw [← hi2]; exact hq
end
end
end Go.Proofs.YtclaldommncdbaaGreat
