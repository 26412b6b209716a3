/- Evaluation by itself: calls by contracts. No program occurs here. Evaluation by itself: contracts in a row. No program occurs here. Evaluation by itself: methods of machines behind interfaces. No program occurs here. The reference's and the program's data as kinds. No program occurs here. The seat's kinds. A row that a call has made. No program occurs here. Evaluation by itself: slices that came in. No program occurs here. Contracts proved in another style, in the evaluator's words. No program occurs here. A configuration that came in. From the readings of the arguments to our words. From the readings of the arguments to our words: bytes, ints. From the readings of the arguments to our words: configurations by value. From the readings of the arguments to our words: lists of events. -/
import Derived.Test.YtkmkhldmflebkaaMzai
import Derived.Test.YtkmkhldmflebkaaMzaf
import Derived.Test.YtkmkhldmflebkaaMzac
import Derived.Test.YtkmkhldmflebkaaProg
import Derived.Test.YtkmkhldmflebkaaChecked
import Derived.Laws.AppendOwn
import Derived.OpenShut
import Derived.ProofKit
import Derived.Deep.Slices
import Derived.Deep.Fields
import Derived.ChangeSame
set_option linter.all false
namespace Go.Proofs.Ytkmkhldmflebkaa
section
open Go Go.RowKit
inductive RemC (T : Nat → Type) (M : Type) (c : Nat) where
  | cells (id : Nat) (pre post : List (Fd T M))
  | elt (j : Nat) (i : Int) (xs : List (T c))
section
variable (S : Shp)
def anH (H : S.kt.H) (c : Nat) (v : V) : Option (S.T c × S.kt.H × RemC S.T S.M c) :=
  match v with
  | .ptr id o => match get H id with
    | some (.cells fs) => match Nat.ble (o + S.kt.sz c) fs.length with
      | true => match ajU S.kt (asm S.kt) (del H id) (S.kt.vw c (S.kt.df c)) ((fs.drop o).take (S.kt.sz c)) with
        | some (l, H1) => match S.kt.bk c l with
          | some x => some (x, H1, .cells id (fs.take o) (fs.drop (o + S.kt.sz c)))
          | none => none
        | none => none
      | false => none
    | some (.elt j i sz) => match Nat.beq o 0 && Nat.beq sz (S.kt.sz c) with
      | true => match get H j with
        | some (.row c' xs) => match agL c' c xs with
          | some ys => some (atL (S.df c) ys i, del H j, .elt j i ys)
          | none => none
        | _ => none
      | false => none
    | _ => none
  | _ => none
def al9 (c : Nat) (x : S.T c) (H : S.kt.H) : RemC S.T S.M c → S.kt.H
  | .cells id pre post => (id, .cells (pre ++ ((S.kt.vw c x).map .f ++ post))) :: H
  | .elt j i xs => (j, .row c (xs.set i.toNat x)) :: H
def alP (ρ : Env) (c : Nat) : RemC S.T S.M c → aag
  | .cells id pre post => fun h => ∃ us ws : List Value, us.length = pre.length ∧ aba (pts (ρ.p id).1 (ρ.p id).2 us :: pts (ρ.p id).1 ((ρ.p id).2 + pre.length + S.kt.sz c) ws :: (fsS (fS S.kt ρ) pre us ++ fsS (fS S.kt ρ) post ws)) h
  | .elt j i xs => fun h => ∃ (b o : Nat) (vss : List (List Value)) (spare : List Value) (N : List aag), (0 ≤ i ∧ i < (xs.length : Int)) ∧ ((ρ.s j).a = some ⟨b, o, none⟩ ∧ (ρ.s j).n = xs.length) ∧ (vss.length = xs.length ∧ ∀ v ∈ vss, v.length = S.kt.sz c) ∧
      (xs.length ≤ (ρ.s j).c ∧ (ρ.s j).c ≤ maxLen ∧ spare.length = ((ρ.s j).c - xs.length) * S.kt.sz c) ∧ (∀ x' vs', (abj S.kt (pcS S.kt) c (xs.set i.toNat x') (vss.set i.toNat vs')).Perm (fsS (pcS S.kt) (S.kt.vw c x') vs' ++ N)) ∧
      aba (pts b o (vss.flatten.take (i.toNat * S.kt.sz c)) :: pts b (o + i.toNat * S.kt.sz c + S.kt.sz c) (vss.flatten.drop (i.toNat * S.kt.sz c + S.kt.sz c) ++ spare) :: N) h
def ab0 (ρ : Env) (c : Nat) : RemC S.T S.M c → Nat × Nat
  | .cells id pre _ => ((ρ.p id).1, (ρ.p id).2 + pre.length)
  | .elt j i _ => match (ρ.s j).a with
    | some a => (a.block, a.off + i.toNat * S.kt.sz c)
    | none => (0, 0)
end
section
variable {S : Shp} {B : Nat} {w : World} {ρ : Env}
theorem ahW {α : Type} {A : α → aag} {L : List aag} (s : Sat B w ((fun h => ∃ x, A x h) :: L)) : ∃ x, Sat B w (A x :: L) := by
  obtain ⟨h, Hh, k1, k2, a, e, ⟨x, hx⟩, hL⟩ := s
  exact ⟨x, h, Hh, k1, k2, a, e, hx, hL⟩
theorem an1 {N L : List aag} (s : Sat B w (aba N :: L)) : Sat B w (N ++ L) := by
  obtain ⟨h, Hh, k1, k2, a, e, hx, hL⟩ := s
  exact ⟨h, Hh, aan.2 ⟨k1, k2, a, e, hx, hL⟩⟩
theorem afj {N L : List aag} {A : aag} (f : ∀ h, aba N h → A h) (s : Sat B w (N ++ L)) : Sat B w (A :: L) := by
  obtain ⟨h, Hh, hs⟩ := s
  obtain ⟨k1, k2, a, e, g1, g2⟩ := aan.1 hs
  exact ⟨h, Hh, k1, k2, a, e, f _ g1, g2⟩
theorem anG {H H1 : S.kt.H} {c : Nat} {v : V} {x : S.T c} {r : RemC S.T S.M c} (h : anH S H c v = some (x, H1, r)) {X : List aag} (s : Sat B w (dH S.kt ρ H ++ X)) :
    aap ρ v = .pointer (some ⟨(ab0 S ρ c r).1, (ab0 S ρ c r).2, none⟩) ∧ Sat B w (obS S.kt c x (ab0 S ρ c r) :: alP S ρ c r :: (dH S.kt ρ H1 ++ X)) := by
  unfold anH at h
  split at h
  · rename_i id o
    split at h
    · rename_i fs hg
      split at h
      · rename_i hB
        split at h
        · rename_i l H2 hl
          split at h
          · rename_i y hy
            cases h
            have hle := Nat.le_of_ble_eq_true hB
            obtain ⟨vs, s1⟩ := adZ (s.imp (aaK (ρ := ρ) hg))
            have hlen := ae4 s1
            have hol : (fs.take o).length = o := by simp; omega
            refine ⟨by simp [aap, ab0, hol], ?_⟩
            -- anT parts
            have e1 : fsS (fS S.kt ρ) fs vs = fsS (fS S.kt ρ) (fs.take o) (vs.take o) ++ (fsS (fS S.kt ρ) ((fs.drop o).take (S.kt.sz c)) ((vs.drop o).take (S.kt.sz c)) ++ fsS (fS S.kt ρ) (fs.drop (o + S.kt.sz c)) (vs.drop (o + S.kt.sz c))) := by
              conv => lhs; rw [← List.take_append_drop o fs, ← List.take_append_drop o vs, aeC (by simp [hlen])]
              conv => lhs; arg 2; rw [← List.take_append_drop (S.kt.sz c) (fs.drop o), ← List.take_append_drop (S.kt.sz c) (vs.drop o), aeC (by simp [hlen]), List.drop_drop, List.drop_drop]
            have e2 : vs = vs.take o ++ ((vs.drop o).take (S.kt.sz c) ++ vs.drop (o + S.kt.sz c)) := by
              rw [← List.drop_drop, List.take_append_drop, List.take_append_drop]
            have s2 : Sat B w (pts (ρ.p id).1 (ρ.p id).2 (vs.take o ++ ((vs.drop o).take (S.kt.sz c) ++ vs.drop (o + S.kt.sz c))) :: (fsS (fS S.kt ρ) fs vs ++ (dH S.kt ρ (del H id) ++ X))) := by rw [← e2]; exact s1
            have s3 := s2.imp agz
            have hvo : (vs.take o).length = o := by simp; omega
            rw [hvo] at s3
            have s4 : Sat B w (pts (ρ.p id).1 ((ρ.p id).2 + o) ((vs.drop o).take (S.kt.sz c) ++ vs.drop (o + S.kt.sz c)) :: pts (ρ.p id).1 (ρ.p id).2 (vs.take o) :: (fsS (fS S.kt ρ) fs vs ++ (dH S.kt ρ (del H id) ++ X))) := s3.perm (List.Perm.swap ..)
            have s5 := s4.imp agz
            have hvm : ((vs.drop o).take (S.kt.sz c)).length = S.kt.sz c := by rw [List.length_take, List.length_drop]; omega
            rw [hvm, e1] at s5
            -- the middle is put together
            have s6 : Sat B w (fsS (fS S.kt ρ) ((fs.drop o).take (S.kt.sz c)) ((vs.drop o).take (S.kt.sz c)) ++ (dH S.kt ρ (del H id) ++ (pts (ρ.p id).1 ((ρ.p id).2 + o) ((vs.drop o).take (S.kt.sz c)) :: ((pts (ρ.p id).1 (ρ.p id).2 (vs.take o) :: pts (ρ.p id).1 ((ρ.p id).2 + o + S.kt.sz c) (vs.drop (o + S.kt.sz c)) :: (fsS (fS S.kt ρ) (fs.take o) (vs.take o) ++ fsS (fS S.kt ρ) (fs.drop (o + S.kt.sz c)) (vs.drop (o + S.kt.sz c)))) ++ X)))) := by
              refine s5.perm ?_
              refine List.Perm.symm ?_
              refine (afA _ _ _ _).trans (List.Perm.cons _ ?_)
              simp only [List.cons_append]
              refine (afA _ _ _ _).trans ?_
              refine List.Perm.trans (List.Perm.cons _ (afA _ _ _ _)) ?_
              refine (List.Perm.swap ..).trans (List.Perm.cons _ (List.Perm.cons _ ?_))
              simp only [List.append_assoc]
              -- mid ++ (H ++ (pre ++ (post ++ X)))  ~  pre ++ (mid ++ (post ++ (H ++ X)))
              refine (List.Perm.append_left _ (ab2 _ _ _)).trans ?_
              refine (ab2 _ _ _).trans (List.Perm.append_left _ (List.Perm.append_left _ (ab2 _ _ _)))
            have s7 := aeI ahO hl s6
            have s8 : Sat B w ((pts (ρ.p id).1 ((ρ.p id).2 + o) ((vs.drop o).take (S.kt.sz c)) :: fsS (pcS S.kt) l ((vs.drop o).take (S.kt.sz c))) ++ ((pts (ρ.p id).1 (ρ.p id).2 (vs.take o) :: pts (ρ.p id).1 ((ρ.p id).2 + o + S.kt.sz c) (vs.drop (o + S.kt.sz c)) :: (fsS (fS S.kt ρ) (fs.take o) (vs.take o) ++ fsS (fS S.kt ρ) (fs.drop (o + S.kt.sz c)) (vs.drop (o + S.kt.sz c)))) ++ (dH S.kt ρ H1 ++ X))) := by
              refine s7.perm ?_
              refine (afA _ _ _ _).trans ?_
              simp only [List.cons_append]
              refine List.Perm.cons _ (List.Perm.append_left _ ?_)
              exact ab2 (dH S.kt ρ H1) (pts (ρ.p id).1 (ρ.p id).2 (vs.take o) :: pts (ρ.p id).1 ((ρ.p id).2 + o + S.kt.sz c) (vs.drop (o + S.kt.sz c)) :: (fsS (fS S.kt ρ) (fs.take o) (vs.take o) ++ fsS (fS S.kt ρ) (fs.drop (o + S.kt.sz c)) (vs.drop (o + S.kt.sz c)))) X
            refine afj (fun k hk => ?_) (?_ : Sat B w ((pts (ρ.p id).1 ((ρ.p id).2 + o) ((vs.drop o).take (S.kt.sz c)) :: fsS (pcS S.kt) l ((vs.drop o).take (S.kt.sz c))) ++ (alP S ρ c (.cells id (fs.take o) (fs.drop (o + S.kt.sz c))) :: (dH S.kt ρ H1 ++ X))))
            · refine agD.2 ⟨(vs.drop o).take (S.kt.sz c), ?_⟩
              rw [S.kt.bk_ok _ _ _ hy]
              simpa [ab0, hol] using hk
            · have s9 := s8.perm List.perm_append_comm
              rw [List.append_assoc] at s9
              have s10 := afj (A := alP S ρ c (.cells id (fs.take o) (fs.drop (o + S.kt.sz c)))) (fun k hk => ⟨vs.take o, vs.drop (o + S.kt.sz c), by rw [hvo, hol], by rw [hol]; exact hk⟩) s9
              refine s10.perm ?_
              refine List.Perm.symm ?_
              refine (List.perm_middle).trans (List.Perm.cons _ List.perm_append_comm)
          · cases h
        · cases h
      · cases h
    · rename_i j i sz hel
      split at h
      · rename_i hB
        split at h
        · rename_i c' xs hg
          split at h
          · rename_i ys hy
            cases h
            obtain ⟨rfl, rfl⟩ := adr hy
            simp only [Bool.and_eq_true] at hB
            obtain rfl := Nat.eq_of_beq_eq_true hB.1
            obtain rfl := Nat.eq_of_beq_eq_true hB.2
            obtain ⟨hi, b, o2, hA, hp⟩ := ajJ s hel
            obtain ⟨hn, vss, h2, h3, s2⟩ := aeM s hg
            rw [hn] at hi
            have hxi := abV (d := S.df c') hi
            have hlt : i.toNat < vss.length := by omega
            have hvs : vss[i.toNat]? = some vss[i.toNat] := List.getElem?_eq_getElem hlt
            have hvl := h3 _ (List.getElem_mem hlt)
            refine ⟨by simp [aap, ab0, hA, hp], ?_⟩
            obtain ⟨hh, Hh, k1, k2, a, e, ⟨r1, r2, r3, r4⟩, hL⟩ := s2
            rcases r4 with ⟨r4, _⟩ | ⟨b', o', spare, hA', hsp, hpts⟩
            · rw [r4] at hA; cases hA
            · rw [hA] at hA'
              cases hA'
              obtain ⟨N, p1, p2⟩ := aeg (pc := pcS S.kt) hxi hvs
              have hfl := acn h3
              have hlow : i.toNat * S.kt.sz c' + S.kt.sz c' ≤ vss.flatten.length := by
                rw [hfl]
                have : (i.toNat + 1) * S.kt.sz c' ≤ vss.length * S.kt.sz c' := Nat.mul_le_mul_right _ hlt
                rw [Nat.add_mul] at this; omega
              have hmid : (vss.flatten.drop (i.toNat * S.kt.sz c')).take (S.kt.sz c') = vss[i.toNat] := by
                apply List.ext_getElem?
                intro q
                by_cases hq : q < S.kt.sz c'
                · rw [List.getElem?_take_of_lt hq, List.getElem?_drop]
                  rw [afs h3 hvs (v := (vss[i.toNat])[q]'(by omega)) (List.getElem?_eq_getElem _), List.getElem?_eq_getElem]
                · rw [List.getElem?_eq_none (by rw [List.length_take, List.length_drop]; omega), List.getElem?_eq_none (by omega)]
              have e2 : vss.flatten ++ spare = vss.flatten.take (i.toNat * S.kt.sz c') ++ (vss[i.toNat] ++ (vss.flatten.drop (i.toNat * S.kt.sz c' + S.kt.sz c') ++ spare)) := by
                rw [← hmid, ← List.drop_drop, ← List.append_assoc (List.take _ _), ← List.append_assoc, List.append_assoc (List.take (i.toNat * S.kt.sz c') _), List.take_append_drop, List.take_append_drop]
              have t1 : Sat B w (pts b o2 (vss.flatten.take (i.toNat * S.kt.sz c') ++ (vss[i.toNat] ++ (vss.flatten.drop (i.toNat * S.kt.sz c' + S.kt.sz c') ++ spare))) :: (abj S.kt (pcS S.kt) c' ys vss ++ (dH S.kt ρ (del H j) ++ X))) := by
                rw [← e2]; exact ⟨hh, Hh, k1, k2, a, e, hpts, hL⟩
              have t2 := t1.imp agz
              have htl : (vss.flatten.take (i.toNat * S.kt.sz c')).length = i.toNat * S.kt.sz c' := by rw [List.length_take]; omega
              rw [htl] at t2
              have t3 := (t2.perm (List.Perm.swap ..)).imp agz
              rw [hvl] at t3
              have t4 : Sat B w ((pts b (o2 + i.toNat * S.kt.sz c') vss[i.toNat] :: fsS (pcS S.kt) (S.kt.vw c' (atL (S.df c') ys i)) vss[i.toNat]) ++ ((pts b o2 (vss.flatten.take (i.toNat * S.kt.sz c')) :: pts b (o2 + i.toNat * S.kt.sz c' + S.kt.sz c') (vss.flatten.drop (i.toNat * S.kt.sz c' + S.kt.sz c') ++ spare) :: N) ++ (dH S.kt ρ (del H j) ++ X))) := by
                refine t3.perm ?_
                simp only [List.cons_append]
                refine List.Perm.cons _ ?_
                refine (List.Perm.swap ..).trans ?_
                refine List.Perm.trans ?_ (List.perm_middle).symm
                refine List.Perm.cons _ ?_
                refine List.Perm.trans ?_ (List.perm_middle).symm
                refine List.Perm.cons _ ?_
                exact (p1.append_right _).trans (by rw [List.append_assoc])
              refine afj (fun k hk => ?_) (?_ : Sat B w ((pts b (o2 + i.toNat * S.kt.sz c') vss[i.toNat] :: fsS (pcS S.kt) (S.kt.vw c' (atL (S.df c') ys i)) vss[i.toNat]) ++ (alP S ρ c' (.elt j i ys) :: (dH S.kt ρ (del H j) ++ X))))
              · refine agD.2 ⟨vss[i.toNat], ?_⟩
                simpa [ab0, hA] using hk
              · have s9 := t4.perm List.perm_append_comm
                rw [List.append_assoc] at s9
                have s10 := afj (A := alP S ρ c' (.elt j i ys)) (fun k hk => ⟨b, o2, vss, spare, N, hi, ⟨hA, hn⟩, ⟨h2.symm, h3⟩, ⟨r2, r3, hsp⟩, p2, hk⟩) s9
                refine s10.perm ?_
                refine List.Perm.symm ?_
                exact (List.perm_middle).trans (List.Perm.cons _ List.perm_append_comm)
          · cases h
        · cases h
      · cases h
    · cases h
  · cases h
theorem aly {H : S.kt.H} {c : Nat} {x : S.T c} {r : RemC S.T S.M c} {X : List aag} (s : Sat B w (obS S.kt c x (ab0 S ρ c r) :: alP S ρ c r :: (dH S.kt ρ H ++ X))) : Sat B w (dH S.kt ρ (al9 S c x H r) ++ X) := by
  obtain ⟨h, Hh, k1, k2, a, e, hO, hL⟩ := s
  rw [agD] at hO
  obtain ⟨vs, hO⟩ := hO
  have s1 : Sat B w ((pts (ab0 S ρ c r).1 (ab0 S ρ c r).2 vs :: fsS (pcS S.kt) (S.kt.vw c x) vs) ++ (alP S ρ c r :: (dH S.kt ρ H ++ X))) := ⟨h, Hh, aan.2 ⟨k1, k2, a, e, hO, hL⟩⟩
  have hlen : (S.kt.vw c x).length = vs.length := ae4 s1
  rw [S.kt.sz_ok] at hlen
  have s2 : Sat B w (alP S ρ c r :: ((pts (ab0 S ρ c r).1 (ab0 S ρ c r).2 vs :: fsS (pcS S.kt) (S.kt.vw c x) vs) ++ (dH S.kt ρ H ++ X))) := s1.perm (aaq fun f g h1 h2 h3 => by simp only [h1, h2, h3]; omega)
  cases r with
  | cells id pre post =>
    obtain ⟨us, s3⟩ := ahW (show Sat B w ((fun h => ∃ us, (fun us h => ∃ ws : List Value, us.length = pre.length ∧ aba (pts (ρ.p id).1 (ρ.p id).2 us :: pts (ρ.p id).1 ((ρ.p id).2 + pre.length + S.kt.sz c) ws :: (fsS (fS S.kt ρ) pre us ++ fsS (fS S.kt ρ) post ws)) h) us h) :: ((pts ((ρ.p id).1) ((ρ.p id).2 + pre.length) vs :: fsS (pcS S.kt) (S.kt.vw c x) vs) ++ (dH S.kt ρ H ++ X))) from s2)
    obtain ⟨ws, s4⟩ := ahW s3
    obtain ⟨hu, s5⟩ : us.length = pre.length ∧ Sat B w (aba (pts (ρ.p id).1 (ρ.p id).2 us :: pts (ρ.p id).1 ((ρ.p id).2 + pre.length + S.kt.sz c) ws :: (fsS (fS S.kt ρ) pre us ++ fsS (fS S.kt ρ) post ws)) :: ((pts ((ρ.p id).1) ((ρ.p id).2 + pre.length) vs :: fsS (pcS S.kt) (S.kt.vw c x) vs) ++ (dH S.kt ρ H ++ X))) := by
      obtain ⟨h', Hh', j1, j2, a', e', ⟨g1, g2⟩, hL'⟩ := s4
      exact ⟨g1, h', Hh', j1, j2, a', e', g2, hL'⟩
    have s6 := an1 s5
    have s7 : Sat B w (pts (ρ.p id).1 ((ρ.p id).2 + pre.length) vs :: pts (ρ.p id).1 ((ρ.p id).2 + pre.length + S.kt.sz c) ws :: (pts (ρ.p id).1 (ρ.p id).2 us :: (fsS (fS S.kt ρ) pre us ++ (fsS (pcS S.kt) (S.kt.vw c x) vs ++ fsS (fS S.kt ρ) post ws)) ++ (dH S.kt ρ H ++ X))) := s6.perm (aaq fun f g h1 h2 h3 => by simp only [h1, h2, h3]; omega)
    have s8 := s7.imp (agA (by rw [← hlen]))
    have s9 := (s8.perm (List.Perm.swap ..)).imp (agA (by rw [hu]))
    refine afj (N := pts (ρ.p id).1 (ρ.p id).2 (us ++ (vs ++ ws)) :: (fsS (fS S.kt ρ) pre us ++ (fsS (pcS S.kt) (S.kt.vw c x) vs ++ fsS (fS S.kt ρ) post ws))) (fun k hk => ⟨us ++ (vs ++ ws), ?_⟩) s9
    show aba (pts (ρ.p id).1 (ρ.p id).2 (us ++ (vs ++ ws)) :: fsS (fS S.kt ρ) (pre ++ ((S.kt.vw c x).map .f ++ post)) (us ++ (vs ++ ws))) k
    rw [aeC hu.symm, aeC (by rw [List.length_map, S.kt.sz_ok, hlen]), ahD (pcS S.kt) _ (fun x v => rfl)]
    exact hk
  | elt j i xs =>
    obtain ⟨h', Hh', j1, j2, a', e', ⟨b, o, vss, spare, N, hi, ⟨hA, hn⟩, ⟨hvl, hvz⟩, ⟨hc1, hc2, hc3⟩, hperm, hst⟩, hL'⟩ := s2
    have s3 : Sat B w ((pts b o (vss.flatten.take (i.toNat * S.kt.sz c)) :: pts b (o + i.toNat * S.kt.sz c + S.kt.sz c) (vss.flatten.drop (i.toNat * S.kt.sz c + S.kt.sz c) ++ spare) :: N) ++ ((pts (ab0 S ρ c (.elt j i xs)).1 (ab0 S ρ c (.elt j i xs)).2 vs :: fsS (pcS S.kt) (S.kt.vw c x) vs) ++ (dH S.kt ρ H ++ X))) := ⟨h', Hh', aan.2 ⟨j1, j2, a', e', hst, hL'⟩⟩
    have hra : ab0 S ρ c (.elt j i xs) = (b, o + i.toNat * S.kt.sz c) := by simp [ab0, hA]
    rw [hra] at s3
    have hlt : i.toNat < vss.length := by omega
    have hvs : vss[i.toNat]? = some vss[i.toNat] := List.getElem?_eq_getElem hlt
    have hfl := acn hvz
    have hlow : i.toNat * S.kt.sz c + S.kt.sz c ≤ vss.flatten.length := by
      rw [hfl]
      have : (i.toNat + 1) * S.kt.sz c ≤ vss.length * S.kt.sz c := Nat.mul_le_mul_right _ hlt
      rw [Nat.add_mul] at this; omega
    have htl : (vss.flatten.take (i.toNat * S.kt.sz c)).length = i.toNat * S.kt.sz c := by rw [List.length_take]; omega
    have s4 : Sat B w (pts b (o + i.toNat * S.kt.sz c) vs :: pts b (o + i.toNat * S.kt.sz c + S.kt.sz c) (vss.flatten.drop (i.toNat * S.kt.sz c + S.kt.sz c) ++ spare) :: (pts b o (vss.flatten.take (i.toNat * S.kt.sz c)) :: (fsS (pcS S.kt) (S.kt.vw c x) vs ++ N) ++ (dH S.kt ρ H ++ X))) := s3.perm (aaq fun f g h1 h2 h3 => by simp only [h1, h2, h3]; omega)
    have s5 := s4.imp (agA (by rw [← hlen]))
    have s6 := (s5.perm (List.Perm.swap ..)).imp (agA (by rw [htl]))
    have e2 : vss.flatten.take (i.toNat * S.kt.sz c) ++ (vs ++ (vss.flatten.drop (i.toNat * S.kt.sz c + S.kt.sz c) ++ spare)) = (vss.set i.toNat vs).flatten ++ spare := by
      have := aeD (o := 0) (us := vs) hvz hvs (by omega)
      have e3 : (vss[i.toNat]).take 0 ++ vs ++ (vss[i.toNat]).drop (0 + vs.length) = vs := by
        have := hvz _ (List.getElem_mem hlt)
        rw [List.drop_eq_nil_of_le (by omega)]; simp
      rw [e3, Nat.add_zero, ← hlen] at this
      rw [this]; simp only [List.append_assoc]
    rw [e2] at s6
    have s7 : Sat B w ((pts b o ((vss.set i.toNat vs).flatten ++ spare) :: abj S.kt (pcS S.kt) c (xs.set i.toNat x) (vss.set i.toNat vs)) ++ (dH S.kt ρ H ++ X)) := s6.perm (List.Perm.cons _ ((hperm x vs).symm.append_right _))
    refine afj (fun k hk => ?_) s7
    obtain ⟨q1, q2, qa, qe, g1, g2⟩ := hk
    refine ⟨by rw [List.length_set]; exact hn, abL.2 ⟨vss.set i.toNat vs, q1, q2, qa, qe, ⟨?_, ?_, hc2, .inr ⟨b, o, spare, hA, ?_, g1⟩⟩, g2⟩⟩
    · have hz2 : ∀ v ∈ vss.set i.toNat vs, v.length = S.kt.sz c := fun v hv => by
        rcases List.mem_or_eq_of_mem_set hv with e | e
        · exact hvz v e
        · rw [e, ← hlen]
      rw [acn hz2, List.length_set, List.length_set, hvl]
    · rw [List.length_set]; exact hc1
    · rw [List.length_set]; exact hc3
end
section
variable (S : Shp)
def anI : List Pk → Type
  | [] => Unit
  | .ref c :: l => RemC S.T S.M c × anI l
  | .mch :: l => Nat × anI l
  | .lent _ :: l => Nat × anI l
  | .sh _ :: l => anI l
  | .val _ :: l => anI l
def alR (Z : S.kt.H) : (ps : List Pk) → S.kt.H → List V → Option (alp S ps × S.kt.H × anI S ps)
  | [], H, [] => some ((), H, ())
  | .sh s :: ps, H, v :: vs => match asD S Z H s v with
    | some (x, H1) => match alR Z ps H1 vs with
      | some (r, H2, m) => some ((x, r), H2, m)
      | none => none
    | none => none
  | .val c :: ps, H, v :: vs => match asF S H c v with
    | some (x, H1) => match alR Z ps H1 vs with
      | some (r, H2, m) => some ((x, r), H2, m)
      | none => none
    | none => none
  | .ref c :: ps, H, v :: vs => match anH S H c v with
    | some (x, H1, q) => match alR Z ps H1 vs with
      | some (r, H2, m) => some ((x, r), H2, (q, m))
      | none => none
    | none => none
  | .mch :: ps, H, v :: vs => match v with
    | .mc id => match get H id with
      | some (.mach x) => match alR Z ps (del H id) vs with
        | some (r, H2, m) => some ((x, r), H2, (id, m))
        | none => none
      | _ => none
    | _ => none
  | .lent c :: ps, H, v :: vs => match v with
    | .sl id => match get H id with
      | some (.row c' xs) => match agL c' c xs with
        | some ys => match alR Z ps (del H id) vs with
          | some (r, H2, m) => some ((ys, r), H2, (id, m))
          | none => none
        | none => none
      | _ => none
    | _ => none
  | _, _, _ => none
def af7 : (ps : List Pk) → anI S ps → ai4 S ps → S.kt.H → S.kt.H
  | [], _, _, H => H
  | .sh _ :: ps, m, o, H => af7 ps m o H
  | .val _ :: ps, m, o, H => af7 ps m o H
  | .ref c :: ps, m, o, H => al9 S c o.1 (af7 ps m.2 o.2 H) m.1
  | .mch :: ps, m, o, H => (m.1, .mach o.1) :: af7 ps m.2 o.2 H
  | .lent c :: ps, m, o, H => (m.1, .row c o.1) :: af7 ps m.2 o.2 H
def ahR (ρ : Env) : (ps : List Pk) → anI S ps → List aag
  | [], _ => []
  | .sh _ :: ps, m => ahR ρ ps m
  | .val _ :: ps, m => ahR ρ ps m
  | .ref c :: ps, m => alP S ρ c m.1 :: ahR ρ ps m.2
  | .mch :: ps, m => ahR ρ ps m.2
  | .lent _ :: ps, m => ahR ρ ps m.2
def ahy (ρ : Env) : (ps : List Pk) → anI S ps → List Value → Prop
  | [], _, _ => True
  | .sh _ :: ps, m, _ :: vs => ahy ρ ps m vs
  | .val _ :: ps, m, _ :: vs => ahy ρ ps m vs
  | .ref c :: ps, m, v :: vs => v = .pointer (some ⟨(ab0 S ρ c m.1).1, (ab0 S ρ c m.1).2, none⟩) ∧ ahy ρ ps m.2 vs
  | .mch :: ps, m, v :: vs => v = ρ.v m.1 ∧ ahy ρ ps m.2 vs
  | .lent _ :: ps, m, v :: vs => v = aap ρ (.sl m.1) ∧ ahy ρ ps m.2 vs
  | _ :: _, _, [] => False
end
section
variable {S : Shp} {B : Nat} {w : World} {ρ : Env}
theorem apX {id c' c : Nat} {zs : List (S.T c')} {ys : List (S.T c)} {L : List aag} (s : Sat B w (aby S.kt ρ id (.row c' zs) :: L)) (hq : agL c' c zs = some ys) : Sat B w (pcS S.kt (.row c ys) (aap ρ (.sl id)) :: L) := by
  obtain ⟨e, he⟩ := adr hq
  subst e
  subst he
  refine aa0 (fun k hk => ?_) s
  rw [aaI]
  exact ⟨(ρ.s id).a, (ρ.s id).c, by rw [← hk.1]; rfl, hk.2⟩
theorem ark {id c : Nat} {xs : List (S.T c)} {L : List aag} (s : Sat B w (pcS S.kt (.row c xs) (aap ρ (.sl id)) :: L)) : Sat B w (aby S.kt ρ id (.row c xs) :: L) := aa0 (fun k hk => by
  rw [aaI] at hk
  obtain ⟨A, cap, e, h⟩ := hk
  injection e with e1 e2 e3
  subst e1 e3
  exact ⟨e2, h⟩) s
theorem agR {Z : S.kt.H} : ∀ {ps : List Pk} {H H' : S.kt.H} {vs : List V} {x : alp S ps} {m : anI S ps}, alR S Z ps H vs = some (x, H', m) → ∀ {X : List aag}, Sat B w (dH S.kt ρ H ++ (dH S.kt ρ Z ++ X)) →
    ahy S ρ ps m (aak ρ vs) ∧ Sat B w (aik S ps x (aak ρ vs) ++ (ahR S ρ ps m ++ (dH S.kt ρ H' ++ (dH S.kt ρ Z ++ X))))
  | [], H, H', [], x, m, h, X, s => by cases h; exact ⟨trivial, s⟩
  | [], _, _, _ :: _, _, _, h, _, _ => by cases h
  | .sh _ :: _, _, _, [], _, _, h, _, _ => by cases h
  | .val _ :: _, _, _, [], _, _, h, _, _ => by cases h
  | .ref _ :: _, _, _, [], _, _, h, _, _ => by cases h
  | .mch :: _, _, _, [], _, _, h, _, _ => by cases h
  | .lent _ :: _, _, _, [], _, _, h, _, _ => by cases h
  | .sh s0 :: ps, H, H', v :: vs, x, m, h, X, s => by
    unfold alR at h
    split at h
    · rename_i y H1 h1
      split at h
      · rename_i r H2 m' h2
        cases h
        have s1 := anz h1 s
        obtain ⟨l, s2⟩ := agR h2 (X := pcS S.kt (vw1 S.T S.M s0 y) (aap ρ v) :: X) (s1.perm (aaq fun f g h1 h2 h3 => by simp only [h1, h2, h3]; omega))
        exact ⟨l, s2.perm (aaq fun f g h1 h2 h3 => by simp only [h1, h2, h3, aik, aak, List.cons_append, ahR]; omega)⟩
      · cases h
    · cases h
  | .val c :: ps, H, H', v :: vs, x, m, h, X, s => by
    unfold alR at h
    split at h
    · rename_i y H1 h1
      split at h
      · rename_i r H2 m' h2
        cases h
        have s1 := anB h1 s
        obtain ⟨l, s2⟩ := agR h2 (X := anJ S c y (aap ρ v) :: X) (s1.perm (aaq fun f g h1 h2 h3 => by simp only [h1, h2, h3]; omega))
        exact ⟨l, s2.perm (aaq fun f g h1 h2 h3 => by simp only [h1, h2, h3, aik, aak, List.cons_append, ahR]; omega)⟩
      · cases h
    · cases h
  | .ref c :: ps, H, H', v :: vs, x, m, h, X, s => by
    unfold alR at h
    split at h
    · rename_i y H1 q h1
      split at h
      · rename_i r H2 m' h2
        cases h
        obtain ⟨hv, s1⟩ := anG h1 s
        have s1' : Sat B w (pcS S.kt (.own c y) (aap ρ v) :: alP S ρ c q :: (dH S.kt ρ H1 ++ (dH S.kt ρ Z ++ X))) := aa0 (fun k hk => aaI.2 (show pcW S.kt (obS S.kt) (rwS S.kt) (.own c y) (aap ρ v) k from ⟨_, hv, hk⟩)) s1
        obtain ⟨l, s2⟩ := agR h2 (X := pcS S.kt (.own c y) (aap ρ v) :: alP S ρ c q :: X) (s1'.perm (aaq fun f g h1 h2 h3 => by simp only [h1, h2, h3]; omega))
        exact ⟨⟨hv, l⟩, s2.perm (aaq fun f g h1 h2 h3 => by simp only [h1, h2, h3, aik, aak, List.cons_append, ahR]; omega)⟩
      · cases h
    · cases h
  | .mch :: ps, H, H', v :: vs, x, m, h, X, s => by
    unfold alR at h
    split at h
    · rename_i id
      split at h
      · rename_i y hg
        split at h
        · rename_i r H2 m' h2
          cases h
          have s1 := s.imp (aaK (ρ := ρ) hg)
          obtain ⟨l, s2⟩ := agR h2 (X := pcS S.kt (.mach y) (ρ.v id) :: X) (s1.perm (aaq fun f g h1 h2 h3 => by simp only [h1, h2, h3, aby]; omega))
          exact ⟨⟨rfl, l⟩, s2.perm (aaq fun f g h1 h2 h3 => by simp only [h1, h2, h3, aik, aak, aap, List.cons_append, ahR]; omega)⟩
        · cases h
      · cases h
    · cases h
  | .lent c :: ps, H, H', v :: vs, x, m, h, X, s => by
    unfold alR at h
    split at h
    · rename_i id
      split at h
      · rename_i c' zs hg
        split at h
        · rename_i ys hq
          split at h
          · rename_i r H2 m' h2
            cases h
            have s1 := apX (s.imp (aaK (ρ := ρ) hg)) hq
            obtain ⟨l, s2⟩ := agR h2 (X := pcS S.kt (.row c ys) (aap ρ (.sl id)) :: X) (s1.perm (aaq fun f g h1 h2 h3 => by simp only [h1, h2, h3]; omega))
            exact ⟨⟨rfl, l⟩, s2.perm (aaq fun f g h1 h2 h3 => by simp only [h1, h2, h3, aik, aak, List.cons_append, ahR]; omega)⟩
          · cases h
        · cases h
      · cases h
    · cases h
theorem arq {c : Nat} {x : S.T c} {q : Nat × Nat} {L : List aag} (s : Sat B w (pcS S.kt (.own c x) (.pointer (some ⟨q.1, q.2, none⟩)) :: L)) : Sat B w (obS S.kt c x q :: L) := aa0 (fun k hk => by
  rw [aaI] at hk
  obtain ⟨⟨a', b'⟩, e, h⟩ := hk
  obtain ⟨a, b⟩ := q
  cases e
  exact h) s
theorem afk : ∀ {ps : List Pk} {H : S.kt.H} {m : anI S ps} {o : ai4 S ps} {vs : List Value} {X : List aag}, ahy S ρ ps m vs → Sat B w (aeX S ps o vs ++ (ahR S ρ ps m ++ (dH S.kt ρ H ++ X))) → Sat B w (dH S.kt ρ (af7 S ps m o H) ++ X)
  | [], H, m, o, vs, X, _, s => by cases vs <;> exact s
  | p :: _, _, _, _, [], _, l, _ => by cases p <;> exact l.elim
  | .sh _ :: ps, H, m, o, v :: vs, X, l, s => afk (ps := ps) l s
  | .val _ :: ps, H, m, o, v :: vs, X, l, s => afk (ps := ps) l s
  | .ref c :: ps, H, m, o, v :: vs, X, l, s => by
    obtain ⟨hv, l'⟩ := l
    have s1 : Sat B w (aeX S ps o.2 vs ++ (ahR S ρ ps m.2 ++ (dH S.kt ρ H ++ (pcS S.kt (.own c o.1) v :: alP S ρ c m.1 :: X)))) := s.perm (aaq fun f g h1 h2 h3 => by simp only [aeX, ahR, List.cons_append, h1, h2, h3]; omega)
    have s2 := afk l' s1
    rw [hv] at s2
    have s3 := arq (q := ab0 S ρ c m.1) (s2.perm (afA (dH S.kt ρ (af7 S ps m.2 o.2 H)) [] _ _))
    exact aly (s3.perm (aaq fun f g h1 h2 h3 => by simp only [h1, h2, h3]; omega))
  | .mch :: ps, H, m, o, v :: vs, X, l, s => by
    obtain ⟨hv, l'⟩ := l
    have s1 : Sat B w (aeX S ps o.2 vs ++ (ahR S ρ ps m.2 ++ (dH S.kt ρ H ++ (pcS S.kt (.mach o.1) v :: X)))) := s.perm (aaq fun f g h1 h2 h3 => by simp only [aeX, ahR, List.cons_append, h1, h2, h3]; omega)
    have s2 := afk l' s1
    rw [hv] at s2
    exact s2.perm (aaq fun f g h1 h2 h3 => by simp only [af7, dH, List.map_cons, aby, List.cons_append, h1, h2, h3]; omega)
  | .lent c :: ps, H, m, o, v :: vs, X, l, s => by
    obtain ⟨hv, l'⟩ := l
    have s1 : Sat B w (aeX S ps o.2 vs ++ (ahR S ρ ps m.2 ++ (dH S.kt ρ H ++ (pcS S.kt (.row c o.1) v :: X)))) := s.perm (aaq fun f g h1 h2 h3 => by simp only [aeX, ahR, List.cons_append, h1, h2, h3]; omega)
    have s2 := afk l' s1
    rw [hv] at s2
    have s3 := ark (s2.perm (afA (dH S.kt ρ (af7 S ps m.2 o.2 H)) [] _ _))
    exact s3.perm (aaq fun f g h1 h2 h3 => by simp only [af7, dH, List.map_cons, List.cons_append, List.nil_append, h1, h2, h3]; try omega)
structure Con (S : Shp) where
  f : FuncId
  ps : List Pk
  rs : List Rk
  spec : alp S ps → Option (alo S rs × ai4 S ps)
def anf (S : Shp) (c : Con S) {α : Type} (vs : List V) (n : Nat) (Z H : S.kt.H) (k : Nat → S.kt.H → V → Option α) : Option α :=
  match alR S Z c.ps (atJ S.kt H) vs with
  | some (x, H1, m) => (c.spec x).bind fun out => match Nat.ble (ac2 (af7 S c.ps m out.2 H1)) n with
    | true => k (ajT S c.rs out.1 n).2.2 ((ajT S c.rs out.1 n).2.1 ++ af7 S c.ps m out.2 H1) (apx (ajT S c.rs out.1 n).1)
    | false => none
  | none => none
def aoC (S : Shp) : List (Con S) → FuncId → Option (Con S)
  | [], _ => none
  | c :: l, f => match Nat.beq c.f f with
    | true => some c
    | false => aoC S l f
def anr (S : Shp) (cs : List (Con S)) : agt S.kt := fun _ f vs n Z H k => match aoC S cs f with
  | some c => anf S c vs n Z H k
  | none => none
theorem aoB {cs : List (Con S)} {f : FuncId} {c : Con S} (h : aoC S cs f = some c) : c ∈ cs ∧ c.f = f := by
  induction cs with
  | nil => cases h
  | cons d cs ih =>
    unfold aoC at h
    split at h
    · rename_i e; cases h; exact ⟨List.mem_cons_self .., Nat.eq_of_beq_eq_true e⟩
    · obtain ⟨h1, h2⟩ := ih h; exact ⟨List.mem_cons_of_mem _ h1, h2⟩
theorem akn : ∀ {rs : List Rk} {x : alo S rs} {n : Nat}, n ≤ (ajT S rs x n).2.2
  | [], _, _ => Nat.le_refl _
  | .sh _ :: rs, x, n => Nat.le_trans (Nat.le_succ n) (akn (rs := rs) (x := x.2))
  | .val c :: rs, x, n => Nat.le_trans (Nat.le_add_right ..) (akn (rs := rs) (x := x.2))
theorem anq [Tb] {P : Program} {W : World} (hg : asI B W) {cs : List (Con S)} (h : ∀ c ∈ cs, ao5 S P c.f c.ps c.rs c.spec) : ags S.kt P B W (anr S cs) := by
  intro α fid vs n Z H k out hk h1 h2 h3 F ρ w hw
  unfold anr at hk
  split at hk
  · rename_i c hc
    obtain ⟨hm, rfl⟩ := aoB hc
    unfold anf at hk
    split at hk
    · rename_i x H1 m hx
      cases hsp : c.spec x with
      | none => rw [hsp] at hk; cases hk
      | some o =>
        rw [hsp] at hk
        simp only [Option.bind_some] at hk
        split at hk
        · rename_i hB
          have hB' := Nat.le_of_ble_eq_true hB
          obtain ⟨l, s1⟩ := agR hx (X := [F]) (aqO hw.2.2)
          have hcl : Cls B W (aik S c.ps x (aak ρ vs) ++ [apK (ahR S ρ c.ps m ++ (dH S.kt ρ H1 ++ (dH S.kt ρ Z ++ [F])))]) w := ⟨hw.1, hw.2.1, s1.fold⟩
          refine aeo.mono (h c hm x o hsp B W hg (aak ρ vs) _ w hcl) ?_
          rintro e w' ⟨us, he, hb1, hb2, hs⟩
          have s2 : Sat B w' (alO S c.rs o.1 us ++ (aeX S c.ps o.2 (aak ρ vs) ++ (ahR S ρ c.ps m ++ (dH S.kt ρ H1 ++ (dH S.kt ρ Z ++ [F]))))) := by
            rw [← List.append_assoc] at hs
            have := hs.unfold
            rwa [List.append_assoc] at this
          have s3 : Sat B w' (aeX S c.ps o.2 (aak ρ vs) ++ (ahR S ρ c.ps m ++ (dH S.kt ρ H1 ++ (alO S c.rs o.1 us ++ (dH S.kt ρ Z ++ [F]))))) := s2.perm (aaq fun f g h1 h2 h3 => by simp only [h1, h2, h3]; omega)
          have s4 := afk l s3
          have s5 : Sat B w' (alO S c.rs o.1 us ++ (fun ρ => dH S.kt ρ (af7 S c.ps m o.2 H1) ++ tl S.kt Z F ρ) ρ) := s4.perm (ab2 _ _ _)
          obtain ⟨ρ', a, e1, s6⟩ := akm (n := n) (X := fun ρ => dH S.kt ρ (af7 S c.ps m o.2 H1) ++ tl S.kt Z F ρ) (fun ρ ρ' ha => by
            show _ ++ _ = _ ++ _
            rw [abg ha _ hB', abB h2 ha]) s5
          refine ⟨⟨ρ', _, _, _⟩, ⟨a, akn, hk⟩, ?_, hb1, hb2, ?_⟩
          · rw [he, e1, akH]; rfl
          · rw [dS, dHa, List.append_assoc]; exact s6
        · cases hk
    · cases hk
  · cases hk
end
section
variable {S : Shp}
variable [Tb]
def CO (P : Program) (c : Con S) : Prop := ao5 S P c.f c.ps c.rs c.spec
def Oks (P : Program) : List (Con S) → Prop
  | [] => True
  | c :: l => CO P c ∧ Oks P l
theorem Oks.mem {P : Program} : ∀ {l : List (Con S)}, Oks P l → ∀ c ∈ l, CO P c
  | [], _, c, h => by cases h
  | d :: l, ⟨h1, h2⟩, c, h => (List.mem_cons.1 h).elim (fun e => by subst e; exact h1) (h2.mem c)
def Tbs (P : Program) : List (Nat × Func) → Prop
  | [] => True
  | p :: l => P.funcs[p.1]? = some p.2 ∧ Tbs P l
theorem Tbs.mem {P : Program} : ∀ {l : List (Nat × Func)}, Tbs P l → ∀ p ∈ l, P.funcs[p.1]? = some p.2
  | [], _, c, h => by cases h
  | d :: l, ⟨h1, h2⟩, c, h => (List.mem_cons.1 h).elim (fun e => by subst e; exact h1) (h2.mem c)
noncomputable abbrev evC (P : Program) (tb : List (Nat × Func)) (hsf : Nat → List (Nat × Hint)) (cs : List (Con S)) (hs : List (Nat × Hint)) (fn : Func) (c : Con S) (x : alp S c.ps) : Option (alo S c.rs × ai4 S c.ps) :=
  evF S P (inl S P tb hsf (anr S cs) tb.length) hs fn (cin S c.ps x 0).1 (cin S c.ps x 0).2.2 [] (cin S c.ps x 0).2.1 (asZ S c.ps c.rs)
theorem abC {P : Program} (hm : P.follows .mixedOrders = true) {c : Con S} {fn : Func} (hf : P.funcs[c.f]? = some fn) (cs : List (Con S)) (h : Oks P cs) (tb : List (Nat × Func)) (ht : Tbs P tb) (hsf : Nat → List (Nat × Hint)) (hs : List (Nat × Hint))
    (he : ∀ x, evC P tb hsf cs hs fn c x = c.spec x) (hb : Nat.blt c.f aew = true := by rfl) : CO P c :=
  aoO hm hf (fun _ _ hg => apo hm ht.mem (anq hg h.mem) tb.length) he hb
theorem ako {P : Program} {c : Con S} (h : CO P c) {spec : alp S c.ps → Option (alo S c.rs × ai4 S c.ps)} (he : ∀ x out, spec x = some out → c.spec x = some out) : CO P ⟨c.f, c.ps, c.rs, spec⟩ := fun x out hx => h x out (he x out hx)
end
section
variable {S : Shp}
variable [Tb]
end
structure EnvV where
  c : Cfg
  m : MemV
  now : Int
  draw : Int
  recs : List RecV
  evs : List Ev
structure MaV where
  f : List FrV
  over : Bool
  code : Int
  value : Int
structure EngV where
  e : EnvV
  m : List MaV
  n : Int
  stamps : List Int
  last : AccV
structure CodV where
  inn : List Int
  out : List Int
  at_ : Int
  bad : Bool
structure FgV where
  acc : Int
  rej : Int
  spa : Int
  ref : Int
  sta : Int
  fin : Int
  ste : Int
  ski : Int
  boo : Int
  age : Int
  par : Int
  lat : Int
  wor : Int
  deriving DecidableEq
structure OutV where
  ended : Bool
  code : Int
  value : Int
  deriving DecidableEq
structure LayV where
  workers : Int
  levels : Int
  classes : Int
  tasks : Int
  deque : Int
  heap : Int
  sleepers : Int
  epochs : Int
  bitmaps : Int
  queues : Int
  table : Int
  deriving DecidableEq
structure ClkV where
  now : Int
  draw : Int
  deriving DecidableEq
structure RecP where
  prog : Int
  parent : Int
  pc : Int
  left : Int
  waiting : Int
  kids : List Int
  started : Bool
  deriving DecidableEq
structure EnvP where
  c : Cfg
  l : LayV
  m : MemV
  k : ClkV
  recs : List RecP
  evs : List Ev
structure B16 where
  b0 : Int
  b1 : Int
  b2 : Int
  b3 : Int
  b4 : Int
  b5 : Int
  b6 : Int
  b7 : Int
  b8 : Int
  b9 : Int
  b10 : Int
  b11 : Int
  b12 : Int
  b13 : Int
  b14 : Int
  b15 : Int
  deriving DecidableEq
inductive MV where
  | nil
structure VwV where
  phase : Int
  level : Int
  parent : Int
  worker : Int
  other : Int
  deriving DecidableEq
structure TkV where
  view : VwV
  prog : Int
  pc : Int
  kids : List Int
structure WlV where
  stack : List Int
  walk : Int
  low : Int
  up : Int
  sleeps : Bool
  last : Ev
structure KyV where
  deadline : Int
  arrival : Int
  task : Int
structure QuV where
  keys : List KyV
  count : Int
structure SaV where
  c : Cfg
  tasks : List TkV
  works : List WlV
  queue : QuV
  offers : Int
structure UseV where
  task : Bool
  ot : Bool
  ow : Bool
  other : Bool
  level : Bool
  raw : Bool
structure CtP where
  keys : List KyV
  count : Int
structure TkP where
  ph : Int
  lv : Int
  pa : Int
  prog : List Ins
  at_ : Int
  kids : List Int
  wt : Int
structure WkP where
  stack : List Int
  walks : Bool
  walk : Int
  low : Int
  up : Int
  sleeps : Bool
  last : Ev
structure SyP where
  c : Cfg
  tasks : List TkP
  works : List WkP
  offers : Int
  known : Int
  queue : CtP
def TR : Nat → Type
  | 0 => Int
  | 1 => Int
  | 2 => Ev
  | 3 => Ins
  | 4 => Sub
  | 5 => EntV
  | 6 => St
  | 7 => RecV
  | 8 => FrV
  | 9 => MemV
  | 10 => ResV
  | 11 => MaV
  | 12 => EnvV
  | 13 => Cfg
  | 14 => QV
  | 15 => MaV
  | 16 => EngV
  | 17 => Int
  | 18 => List Ins
  | 19 => CodV
  | 20 => Cfg
  | 21 => FgV
  | 22 => List Int
  | 23 => OutV
  | 24 => LayV
  | 25 => ClkV
  | 26 => RecP
  | 27 => EnvP
  | 28 => MV
  | 60 => VwV
  | 61 => TkV
  | 62 => WlV
  | 63 => KyV
  | 64 => SaV
  | 65 => QuV
  | 66 => VwV
  | 67 => UseV
  | 68 => KyV
  | 69 => CtP
  | 70 => TkP
  | 71 => WkP
  | 72 => SyP
  | _ => Unit
abbrev sI_ : Sh := .i .i64
abbrev sU_ : Sh := .i .u64
def shR : Nat → List Sh
  | 0 => [sU_]
  | 1 => [sI_]
  | 2 => [sI_, sI_, sI_, sI_, sI_]
  | 3 => [sI_, sI_, sI_]
  | 4 => [sI_, sI_, sI_]
  | 5 => [sI_, sI_]
  | 6 => [sI_, sI_, sI_, sI_, sI_, sI_]
  | 7 => [sI_, sI_, sI_, sI_, sI_, .ro 1, .b]
  | 8 => [sI_, sI_, sI_, sI_, sI_, sI_, sI_, sI_, sI_, sI_, sI_, sI_, sI_, sU_, sU_, sU_, sU_, .ro 1]
  | 9 => [.row 0, sI_, sI_, sU_, sU_, sI_]
  | 10 => [.b, sI_, sI_]
  | 11 => [.row 8, .b, sI_, sI_]
  | 12 => [sI_, sI_, sI_, sI_, sI_, sI_, sI_, sI_, sI_, .rr 3, .ro 4, .row 0, sI_, sI_, sU_, sU_, sI_, sI_, sI_, .row 7, .row 2]
  | 13 => [sI_, sI_, sI_, sI_, sI_, sI_, sI_, sI_, sI_, .rr 3, .ro 4]
  | 14 => [sI_, sI_, sI_, sI_]
  | 15 => [.own 11]
  | 16 => [.own 12, .row 15, sI_, .row 1, sI_, sI_, sU_, sU_]
  | 17 => [.i .u8]
  | 18 => [.ro 3]
  | 19 => [.ro 17, .ro 17, sI_, .b]
  | 20 => [sI_, sI_, sI_, sI_, sI_, sI_, sI_, sI_, sI_, .row 18, .row 4]
  | 21 => [sI_, sI_, sI_, sI_, sI_, sI_, sI_, sI_, sI_, sI_, sI_, sI_, sI_]
  | 22 => [.ro 1]
  | 23 => [.b, sI_, sI_]
  | 24 => [sI_, sI_, sI_, sI_, sI_, sI_, sI_, sI_, sI_, sI_, sI_]
  | 25 => [sI_, sI_]
  | 26 => [sI_, sI_, sI_, sI_, sI_, .row 1, .b]
  | 27 => [sI_, sI_, sI_, sI_, sI_, sI_, sI_, sI_, sI_, .rr 3, .ro 4, sI_, sI_, sI_, sI_, sI_, sI_, sI_, sI_, sI_, sI_, sI_, .own 9, .own 25, .row 26, .row 2]
  | 28 => [.mach]
  | 60 => [sI_, sI_, sI_, sI_, sI_]
  | 61 => [sI_, sI_, sI_, sI_, sI_, sI_, sI_, .ro 1]
  | 62 => [.ro 1, sI_, sI_, sI_, .b, sI_, sI_, sI_, sI_, sI_]
  | 63 => [sI_, sI_, sI_]
  | 64 => [sI_, sI_, sI_, sI_, sI_, sI_, sI_, sI_, sI_, .rr 3, .ro 4, .row 61, .row 62, .ro 63, sI_, sI_]
  | 65 => [.ro 63, sI_]
  | 66 => [sI_, sI_, sI_, sI_, sI_]
  | 67 => [.b, .b, .b, .b, .b, .b]
  | 68 => [sI_, sI_, sI_]
  | 69 => [.row 68, sI_]
  | 70 => [sI_, sI_, sI_, .ro 3, sI_, .row 1, sI_]
  | 71 => [.row 1, .b, sI_, sI_, sI_, .b, sI_, sI_, sI_, sI_, sI_]
  | 72 => [sI_, sI_, sI_, sI_, sI_, sI_, sI_, sI_, sI_, .rr 3, .ro 4, .row 70, .row 71, sI_, sI_, .row 68, sI_]
  | _ => []
def toR : (c : Nat) → TR c → HL TR MV (shR c)
  | 0 => fun x => (x, ())
  | 1 => fun x => (x, ())
  | 2 => fun x => (x.kind, x.worker, x.task, x.other, x.level, ())
  | 3 => fun x => (x.op, x.a, x.b, ())
  | 4 => fun x => (x.prog, x.level, x.deadline, ())
  | 5 => fun x => (x.kind, x.value, ())
  | 6 => fun x => (x.at_, x.ev.kind, x.ev.worker, x.ev.task, x.ev.other, x.ev.level, ())
  | 7 => fun x => (x.prog, x.parent, x.pc, x.left, x.waiting, x.kids, x.started, ())
  | 8 => fun x => (x.kind, x.line, x.q.top, x.q.bottom, x.q.ring, x.q.cap, x.a, x.b, x.d, x.i, x.j, x.n, x.t, x.u, x.v, x.w, x.x, x.l, ())
  | 9 => fun x => (x.cells, x.last.kind, x.last.cell, x.last.old, x.last.new, x.count, ())
  | 10 => fun x => (x.done, x.code, x.value, ())
  | 11 => fun x => (x.f, x.over, x.code, x.value, ())
  | 12 => fun x => (x.c.workers, x.c.levels, x.c.classes, x.c.tasks, x.c.deque, x.c.heap, x.c.batch, x.c.age, x.c.patience, x.c.progs, x.c.subs, x.m.cells, x.m.last.kind, x.m.last.cell, x.m.last.old, x.m.last.new, x.m.count, x.now, x.draw, x.recs, x.evs, ())
  | 13 => fun x => (x.workers, x.levels, x.classes, x.tasks, x.deque, x.heap, x.batch, x.age, x.patience, x.progs, x.subs, ())
  | 14 => fun x => (x.top, x.bottom, x.ring, x.cap, ())
  | 15 => fun x => (x, ())
  | 16 => fun x => (x.e, x.m, x.n, x.stamps, x.last.kind, x.last.cell, x.last.old, x.last.new, ())
  | 17 => fun x => (x, ())
  | 18 => fun x => (x, ())
  | 19 => fun x => (x.inn, x.out, x.at_, x.bad, ())
  | 20 => fun x => (x.workers, x.levels, x.classes, x.tasks, x.deque, x.heap, x.batch, x.age, x.patience, x.progs, x.subs, ())
  | 21 => fun x => (x.acc, x.rej, x.spa, x.ref, x.sta, x.fin, x.ste, x.ski, x.boo, x.age, x.par, x.lat, x.wor, ())
  | 22 => fun x => (x, ())
  | 23 => fun x => (x.ended, x.code, x.value, ())
  | 24 => fun x => (x.workers, x.levels, x.classes, x.tasks, x.deque, x.heap, x.sleepers, x.epochs, x.bitmaps, x.queues, x.table, ())
  | 25 => fun x => (x.now, x.draw, ())
  | 26 => fun x => (x.prog, x.parent, x.pc, x.left, x.waiting, x.kids, x.started, ())
  | 27 => fun x => (x.c.workers, x.c.levels, x.c.classes, x.c.tasks, x.c.deque, x.c.heap, x.c.batch, x.c.age, x.c.patience, x.c.progs, x.c.subs, x.l.workers, x.l.levels, x.l.classes, x.l.tasks, x.l.deque, x.l.heap, x.l.sleepers, x.l.epochs, x.l.bitmaps, x.l.queues, x.l.table, x.m, x.k, x.recs, x.evs, ())
  | 28 => fun x => (x, ())
  | 60 => fun x => (x.phase, x.level, x.parent, x.worker, x.other, ())
  | 61 => fun x => (x.view.phase, x.view.level, x.view.parent, x.view.worker, x.view.other, x.prog, x.pc, x.kids, ())
  | 62 => fun x => (x.stack, x.walk, x.low, x.up, x.sleeps, x.last.kind, x.last.worker, x.last.task, x.last.other, x.last.level, ())
  | 63 => fun x => (x.deadline, x.arrival, x.task, ())
  | 64 => fun x => (x.c.workers, x.c.levels, x.c.classes, x.c.tasks, x.c.deque, x.c.heap, x.c.batch, x.c.age, x.c.patience, x.c.progs, x.c.subs, x.tasks, x.works, x.queue.keys, x.queue.count, x.offers, ())
  | 65 => fun x => (x.keys, x.count, ())
  | 66 => fun x => (x.phase, x.level, x.parent, x.worker, x.other, ())
  | 67 => fun x => (x.task, x.ot, x.ow, x.other, x.level, x.raw, ())
  | 68 => fun x => (x.deadline, x.arrival, x.task, ())
  | 69 => fun x => (x.keys, x.count, ())
  | 70 => fun x => (x.ph, x.lv, x.pa, x.prog, x.at_, x.kids, x.wt, ())
  | 71 => fun x => (x.stack, x.walks, x.walk, x.low, x.up, x.sleeps, x.last.kind, x.last.worker, x.last.task, x.last.other, x.last.level, ())
  | 72 => fun x => (x.c.workers, x.c.levels, x.c.classes, x.c.tasks, x.c.deque, x.c.heap, x.c.batch, x.c.age, x.c.patience, x.c.progs, x.c.subs, x.tasks, x.works, x.offers, x.known, x.queue.keys, x.queue.count, ())
  | 29 => fun _ => ()
  | 30 => fun _ => ()
  | 31 => fun _ => ()
  | 32 => fun _ => ()
  | 33 => fun _ => ()
  | 34 => fun _ => ()
  | 35 => fun _ => ()
  | 36 => fun _ => ()
  | 37 => fun _ => ()
  | 38 => fun _ => ()
  | 39 => fun _ => ()
  | 40 => fun _ => ()
  | 41 => fun _ => ()
  | 42 => fun _ => ()
  | 43 => fun _ => ()
  | 44 => fun _ => ()
  | 45 => fun _ => ()
  | 46 => fun _ => ()
  | 47 => fun _ => ()
  | 48 => fun _ => ()
  | 49 => fun _ => ()
  | 50 => fun _ => ()
  | 51 => fun _ => ()
  | 52 => fun _ => ()
  | 53 => fun _ => ()
  | 54 => fun _ => ()
  | 55 => fun _ => ()
  | 56 => fun _ => ()
  | 57 => fun _ => ()
  | 58 => fun _ => ()
  | 59 => fun _ => ()
  | _ + 73 => fun _ => ()
def ofR : (c : Nat) → HL TR MV (shR c) → TR c
  | 0 => fun p => p.1
  | 1 => fun p => p.1
  | 2 => fun ⟨a, b, c, d, e, _⟩ => ⟨a, b, c, d, e⟩
  | 3 => fun ⟨a, b, c, _⟩ => ⟨a, b, c⟩
  | 4 => fun ⟨a, b, c, _⟩ => ⟨a, b, c⟩
  | 5 => fun ⟨a, b, _⟩ => ⟨a, b⟩
  | 6 => fun ⟨z, a, b, c, d, e, _⟩ => ⟨z, ⟨a, b, c, d, e⟩⟩
  | 7 => fun ⟨a, b, c, d, e, f, g, _⟩ => ⟨a, b, c, d, e, f, g⟩
  | 8 => fun ⟨a, b, q1, q2, q3, q4, c, d, e, f, g, h, i, j, k, l, m, n, _⟩ => ⟨a, b, ⟨q1, q2, q3, q4⟩, c, d, e, f, g, h, i, j, k, l, m, n⟩
  | 9 => fun ⟨a, b, c, d, e, f, _⟩ => ⟨a, ⟨b, c, d, e⟩, f⟩
  | 10 => fun ⟨a, b, c, _⟩ => ⟨a, b, c⟩
  | 11 => fun ⟨a, b, c, d, _⟩ => ⟨a, b, c, d⟩
  | 12 => fun ⟨a1, a2, a3, a4, a5, a6, a7, a8, a9, a10, a11, b1, b2, b3, b4, b5, b6, c, d, e, f, _⟩ => ⟨⟨a1, a2, a3, a4, a5, a6, a7, a8, a9, a10, a11⟩, ⟨b1, ⟨b2, b3, b4, b5⟩, b6⟩, c, d, e, f⟩
  | 13 => fun ⟨a1, a2, a3, a4, a5, a6, a7, a8, a9, a10, a11, _⟩ => ⟨a1, a2, a3, a4, a5, a6, a7, a8, a9, a10, a11⟩
  | 14 => fun ⟨a, b, c, d, _⟩ => ⟨a, b, c, d⟩
  | 15 => fun p => p.1
  | 16 => fun ⟨a, b, c, d, l1, l2, l3, l4, _⟩ => ⟨a, b, c, d, ⟨l1, l2, l3, l4⟩⟩
  | 17 => fun p => p.1
  | 18 => fun p => p.1
  | 19 => fun ⟨a, b, c, d, _⟩ => ⟨a, b, c, d⟩
  | 20 => fun ⟨a1, a2, a3, a4, a5, a6, a7, a8, a9, a10, a11, _⟩ => ⟨a1, a2, a3, a4, a5, a6, a7, a8, a9, a10, a11⟩
  | 21 => fun ⟨a0, a1, a2, a3, a4, a5, a6, a7, a8, a9, a10, a11, a12, _⟩ => ⟨a0, a1, a2, a3, a4, a5, a6, a7, a8, a9, a10, a11, a12⟩
  | 22 => fun p => p.1
  | 23 => fun ⟨a0, a1, a2, _⟩ => ⟨a0, a1, a2⟩
  | 24 => fun ⟨a0, a1, a2, a3, a4, a5, a6, a7, a8, a9, a10, _⟩ => ⟨a0, a1, a2, a3, a4, a5, a6, a7, a8, a9, a10⟩
  | 25 => fun ⟨a0, a1, _⟩ => ⟨a0, a1⟩
  | 26 => fun ⟨a0, a1, a2, a3, a4, a5, a6, _⟩ => ⟨a0, a1, a2, a3, a4, a5, a6⟩
  | 27 => fun ⟨a0, a1, a2, a3, a4, a5, a6, a7, a8, a9, a10, a11, a12, a13, a14, a15, a16, a17, a18, a19, a20, a21, a22, a23, a24, a25, _⟩ => ⟨⟨a0, a1, a2, a3, a4, a5, a6, a7, a8, a9, a10⟩, ⟨a11, a12, a13, a14, a15, a16, a17, a18, a19, a20, a21⟩, a22, a23, a24, a25⟩
  | 28 => fun p => p.1
  | 60 => fun ⟨a0, a1, a2, a3, a4, _⟩ => ⟨a0, a1, a2, a3, a4⟩
  | 61 => fun ⟨a0, a1, a2, a3, a4, a5, a6, a7, _⟩ => ⟨⟨a0, a1, a2, a3, a4⟩, a5, a6, a7⟩
  | 62 => fun ⟨a0, a1, a2, a3, a4, a5, a6, a7, a8, a9, _⟩ => ⟨a0, a1, a2, a3, a4, ⟨a5, a6, a7, a8, a9⟩⟩
  | 63 => fun ⟨a0, a1, a2, _⟩ => ⟨a0, a1, a2⟩
  | 64 => fun ⟨a0, a1, a2, a3, a4, a5, a6, a7, a8, a9, a10, a11, a12, a13, a14, a15, _⟩ => ⟨⟨a0, a1, a2, a3, a4, a5, a6, a7, a8, a9, a10⟩, a11, a12, ⟨a13, a14⟩, a15⟩
  | 65 => fun ⟨a0, a1, _⟩ => ⟨a0, a1⟩
  | 66 => fun ⟨a0, a1, a2, a3, a4, _⟩ => ⟨a0, a1, a2, a3, a4⟩
  | 67 => fun ⟨a0, a1, a2, a3, a4, a5, _⟩ => ⟨a0, a1, a2, a3, a4, a5⟩
  | 68 => fun ⟨a0, a1, a2, _⟩ => ⟨a0, a1, a2⟩
  | 69 => fun ⟨a0, a1, _⟩ => ⟨a0, a1⟩
  | 70 => fun ⟨a0, a1, a2, a3, a4, a5, a6, _⟩ => ⟨a0, a1, a2, a3, a4, a5, a6⟩
  | 71 => fun ⟨a0, a1, a2, a3, a4, a5, a6, a7, a8, a9, a10, _⟩ => ⟨a0, a1, a2, a3, a4, a5, ⟨a6, a7, a8, a9, a10⟩⟩
  | 72 => fun ⟨a0, a1, a2, a3, a4, a5, a6, a7, a8, a9, a10, a11, a12, a13, a14, a15, a16, _⟩ => ⟨⟨a0, a1, a2, a3, a4, a5, a6, a7, a8, a9, a10⟩, a11, a12, a13, a14, ⟨a15, a16⟩⟩
  | 29 => fun _ => ()
  | 30 => fun _ => ()
  | 31 => fun _ => ()
  | 32 => fun _ => ()
  | 33 => fun _ => ()
  | 34 => fun _ => ()
  | 35 => fun _ => ()
  | 36 => fun _ => ()
  | 37 => fun _ => ()
  | 38 => fun _ => ()
  | 39 => fun _ => ()
  | 40 => fun _ => ()
  | 41 => fun _ => ()
  | 42 => fun _ => ()
  | 43 => fun _ => ()
  | 44 => fun _ => ()
  | 45 => fun _ => ()
  | 46 => fun _ => ()
  | 47 => fun _ => ()
  | 48 => fun _ => ()
  | 49 => fun _ => ()
  | 50 => fun _ => ()
  | 51 => fun _ => ()
  | 52 => fun _ => ()
  | 53 => fun _ => ()
  | 54 => fun _ => ()
  | 55 => fun _ => ()
  | 56 => fun _ => ()
  | 57 => fun _ => ()
  | 58 => fun _ => ()
  | 59 => fun _ => ()
  | _ + 73 => fun _ => ()
def dfR : (c : Nat) → TR c
  | 0 => (default : Int)
  | 1 => (default : Int)
  | 2 => (default : Ev)
  | 3 => (default : Ins)
  | 4 => (default : Sub)
  | 5 => (default : EntV)
  | 6 => ⟨0, default⟩
  | 7 => (default : RecV)
  | 8 => (default : FrV)
  | 9 => (default : MemV)
  | 10 => (default : ResV)
  | 11 => ⟨[], false, 0, 0⟩
  | 12 => ⟨⟨0, 0, 0, 0, 0, 0, 0, 0, 0, [], []⟩, default, 0, 0, [], []⟩
  | 13 => ⟨0, 0, 0, 0, 0, 0, 0, 0, 0, [], []⟩
  | 14 => (default : QV)
  | 15 => ⟨[], false, 0, 0⟩
  | 16 => ⟨⟨⟨0, 0, 0, 0, 0, 0, 0, 0, 0, [], []⟩, default, 0, 0, [], []⟩, [], 0, [], default⟩
  | 17 => (default : Int)
  | 18 => []
  | 19 => ⟨[], [], 0, false⟩
  | 20 => ⟨0, 0, 0, 0, 0, 0, 0, 0, 0, [], []⟩
  | 21 => ⟨0, 0, 0, 0, 0, 0, 0, 0, 0, 0, 0, 0, 0⟩
  | 22 => []
  | 23 => ⟨false, 0, 0⟩
  | 24 => ⟨0, 0, 0, 0, 0, 0, 0, 0, 0, 0, 0⟩
  | 25 => ⟨0, 0⟩
  | 26 => ⟨0, 0, 0, 0, 0, [], false⟩
  | 27 => ⟨⟨0, 0, 0, 0, 0, 0, 0, 0, 0, [], []⟩, ⟨0, 0, 0, 0, 0, 0, 0, 0, 0, 0, 0⟩, default, ⟨0, 0⟩, [], []⟩
  | 28 => MV.nil
  | 60 => ⟨0, 0, 0, 0, 0⟩
  | 61 => ⟨⟨0, 0, 0, 0, 0⟩, 0, 0, []⟩
  | 62 => ⟨[], 0, 0, 0, false, ⟨0, 0, 0, 0, 0⟩⟩
  | 63 => ⟨0, 0, 0⟩
  | 64 => ⟨⟨0, 0, 0, 0, 0, 0, 0, 0, 0, [], []⟩, [], [], ⟨[], 0⟩, 0⟩
  | 65 => ⟨[], 0⟩
  | 66 => ⟨0, 0, 0, 0, 0⟩
  | 67 => ⟨false, false, false, false, false, false⟩
  | 68 => ⟨0, 0, 0⟩
  | 69 => ⟨[], 0⟩
  | 70 => ⟨0, 0, 0, [], 0, [], 0⟩
  | 71 => ⟨[], false, 0, 0, 0, false, ⟨0, 0, 0, 0, 0⟩⟩
  | 72 => ⟨⟨0, 0, 0, 0, 0, 0, 0, 0, 0, [], []⟩, [], [], 0, 0, ⟨[], 0⟩⟩
  | 29 => ()
  | 30 => ()
  | 31 => ()
  | 32 => ()
  | 33 => ()
  | 34 => ()
  | 35 => ()
  | 36 => ()
  | 37 => ()
  | 38 => ()
  | 39 => ()
  | 40 => ()
  | 41 => ()
  | 42 => ()
  | 43 => ()
  | 44 => ()
  | 45 => ()
  | 46 => ()
  | 47 => ()
  | 48 => ()
  | 49 => ()
  | 50 => ()
  | 51 => ()
  | 52 => ()
  | 53 => ()
  | 54 => ()
  | 55 => ()
  | 56 => ()
  | 57 => ()
  | 58 => ()
  | 59 => ()
  | _ + 73 => ()
abbrev aaQ (xs : List Int) (i : Int) : Int := atL (dfR 1 : TR 1) xs i
abbrev abr (xs : List Ev) (i : Int) : Ev := atL (dfR 2 : TR 2) xs i
abbrev adQ (xs : List Ins) (i : Int) : Ins := atL (dfR 3 : TR 3) xs i
abbrev acz (xs : List Sub) (i : Int) : Sub := atL (dfR 4 : TR 4) xs i
abbrev ao0 (xs : List Int) (i : Int) : Int := atL (dfR 17 : TR 17) xs i
theorem apy : ∀ c p, toR c (ofR c p) = p
  | 0, _ => rfl
  | 1, _ => rfl
  | 2, _ => rfl
  | 3, _ => rfl
  | 4, _ => rfl
  | 5, _ => rfl
  | 6, _ => rfl
  | 7, _ => rfl
  | 8, _ => rfl
  | 9, _ => rfl
  | 10, _ => rfl
  | 11, _ => rfl
  | 12, _ => rfl
  | 13, _ => rfl
  | 14, _ => rfl
  | 15, _ => rfl
  | 16, _ => rfl
  | 17, _ => rfl
  | 18, _ => rfl
  | 19, _ => rfl
  | 20, _ => rfl
  | 21, _ => rfl
  | 22, _ => rfl
  | 23, _ => rfl
  | 24, _ => rfl
  | 25, _ => rfl
  | 26, _ => rfl
  | 27, _ => rfl
  | 28, _ => rfl
  | 60, _ => rfl
  | 61, _ => rfl
  | 62, _ => rfl
  | 63, _ => rfl
  | 64, _ => rfl
  | 65, _ => rfl
  | 66, _ => rfl
  | 67, _ => rfl
  | 68, _ => rfl
  | 69, _ => rfl
  | 70, _ => rfl
  | 71, _ => rfl
  | 72, _ => rfl
  | 29, _ => rfl
  | 30, _ => rfl
  | 31, _ => rfl
  | 32, _ => rfl
  | 33, _ => rfl
  | 34, _ => rfl
  | 35, _ => rfl
  | 36, _ => rfl
  | 37, _ => rfl
  | 38, _ => rfl
  | 39, _ => rfl
  | 40, _ => rfl
  | 41, _ => rfl
  | 42, _ => rfl
  | 43, _ => rfl
  | 44, _ => rfl
  | 45, _ => rfl
  | 46, _ => rfl
  | 47, _ => rfl
  | 48, _ => rfl
  | 49, _ => rfl
  | 50, _ => rfl
  | 51, _ => rfl
  | 52, _ => rfl
  | 53, _ => rfl
  | 54, _ => rfl
  | 55, _ => rfl
  | 56, _ => rfl
  | 57, _ => rfl
  | 58, _ => rfl
  | 59, _ => rfl
  | _ + 73, _ => rfl
def lsR : (c c' : Nat) → Option (PLift (TR c' = List (TR c)))
  | 3, 18 => some ⟨rfl⟩
  | 1, 22 => some ⟨rfl⟩
  | _, _ => none
theorem arT : ∀ c c' h, lsR c c' = some h → ∀ x, vwP TR MV (shR c') (toR c' x) = [.ro c (h.down ▸ x)] := by
  intro c c' h hl x
  unfold lsR at hl
  split at hl
  · rfl
  · rfl
  · cases hl
def atA : MV → Option (Σ c : Nat, TR c)
  | .nil => none
def mkR : (c : Nat) → TR c → Option MV
  | _, _ => none
theorem arR : ∀ c x m, mkR c x = some m → atA m = some ⟨c, x⟩ := by
  intro c x m h
  unfold mkR at h
  split at h <;> first | (cases h; rfl) | cases h
def asL (td : List (Nat × TypeId)) (c : Nat) : TypeId := (get td c).getD 0
def kdR (td : List (Nat × TypeId)) (t : TypeId) : List (Nat × TypeId) → Option Nat
  | [] => none
  | p :: l => match Nat.beq p.2 t && Nat.beq (asL td p.1) t with
   | true => some p.1
   | false => kdR td t l
theorem apn {td : List (Nat × TypeId)} {t : TypeId} : ∀ {l : List (Nat × TypeId)} {c : Nat}, kdR td t l = some c → asL td c = t
  | [], _, h => by cases h
  | p :: l, c, h => by
    unfold kdR at h
    split at h
    · rename_i hb
      cases h
      simp only [Bool.and_eq_true] at hb
      exact Nat.eq_of_beq_eq_true hb.2
    · exact apn h
def SR (tk : TypeId → Option Nat) (td : List (Nat × TypeId)) : Shp := { T := TR, M := MV, sh := shR, to_ := toR, of := ofR, ok := apy, df := dfR, tid := asL td, tk := tk, spl := atA, nilM := .nil, nilM_ok := rfl, mkM := mkR, mkM_ok := arR, kd := fun t => kdR td t td, kd_ok := fun _ _ h => apn h, ls := lsR, ls_ok := (fun c c' h e x => Or.inl (arT c c' h e x)) }
end
section
open Go Go.RowKit
set_option maxRecDepth 100000
def tkR : TypeId → Option Nat := fun t => get [(3, 1), (5, 17), (25, 13), (28, 22), (34, 2), (38, 18), (52, 66), (53, 60), (56, 19), (59, 3), (61, 4), (73, 65), (75, 64), (77, 61), (82, 69), (84, 72), (86, 70), (91, 71), (101, 62), (105, 67), (121, 68), (133, 63)] t
def tdR : List (Nat × TypeId) := []
abbrev SR1 := SR tkR tdR
theorem abx : Try.prog.follows .mixedOrders = true := by kernel_rfl
end
section
open Go Go.RowKit
section
variable {B : Nat} {w w' : World} {L : List aag} {A : Option Addr} {n cap sz : Nat} {xs : List Value} {el : TypeId}
end
section
variable {α : Type} {enc : α → List Value} {sz B : Nat} {w : World} {A : Option Addr} {c : Nat} {xs : List α} {L : List aag}
theorem arf (hz : 0 < sz) (henc : ∀ x, (enc x).length = sz) (hS : Sl enc sz w B A xs) (hc : xs.length ≤ c) (s : Sat B w L) : Sat B w (roS enc sz A c xs :: L) := by
  obtain ⟨h, H, hs⟩ := s
  refine ⟨abO (fun b o => if b < B then (w.cell? ⟨b, o, none⟩).map .look else none) h, ?_, _, h, ?_, rfl, ?_, hs⟩
  · intro b o x hx
    unfold abO at hx
    by_cases hb : b < B
    · simp only [if_pos hb] at hx
      cases hv : w.cell? ⟨b, o, none⟩ with
      | none => rw [hv] at hx; exact H b o x hx
      | some v =>
        rw [hv] at hx
        obtain rfl := Option.some.inj hx
        exact ⟨.inr trivial, hv⟩
    · simp only [if_neg hb] at hx
      exact H b o x hx
  · intro b o
    by_cases hb : b < B
    · simp only [if_pos hb]
      cases hv : w.cell? ⟨b, o, none⟩ with
      | none => exact .inl rfl
      | some v =>
        cases hh : h b o with
        | none => exact .inr (.inl rfl)
        | some y =>
          obtain ⟨h1, h2⟩ := H b o y hh
          cases y with
          | cell v' => exact absurd (h1.resolve_right id) (by omega)
          | obj v' => exact absurd (h1.resolve_right id) (by omega)
          | look v' =>
            have h3 : w.cell? ⟨b, o, none⟩ = some v' := h2
            rw [hv] at h3
            obtain rfl := Option.some.inj h3
            exact .inr (.inr ⟨v, rfl, rfl⟩)
    · simp only [if_neg hb]; exact .inl rfl
  · refine ⟨fun b o => if b < B then (w.cell? ⟨b, o, none⟩).map .look else none, fun b o x hx => ⟨?_, hx⟩, fun u hu => ⟨⟨hS.1, fun hne => ?_⟩, hc⟩⟩
    · by_cases hb : b < B
      · simp only [if_pos hb] at hx
        cases hv : w.cell? ⟨b, o, none⟩ with
        | none => rw [hv] at hx; cases hx
        | some v => rw [hv] at hx; exact ⟨v, (Option.some.inj hx).symm⟩
      · simp only [if_neg hb] at hx; cases hx
    · obtain ⟨b, o, hA, hb, hcell⟩ := hS.2 hne
      have key : ∀ (i : Nat) x, xs[i]? = some x → ∀ (j : Nat) v, (enc x)[j]? = some v → u.cell? ⟨b, o + i * sz + j, none⟩ = some v := fun i x hx j v hv => by
        have h1 := hcell i x hx j v hv
        exact hu b (o + i * sz + j) (.look v) (by simp only [if_pos hb, h1]; rfl)
      refine ⟨b, o, hA, ?_, key⟩
      cases xs with
      | nil => exact absurd rfl hne
      | cons x xs =>
        cases hx : enc x with
        | nil => have := henc x; rw [hx] at this; simp at this; omega
        | cons y ys => exact afm (key 0 x rfl 0 y (by rw [hx]; rfl))
end
section
variable {S : Shp} {B : Nat} {w : World} {L : List aag} {v : Value}
theorem ag7 {f : Fl S.T S.M} {p : aag} (h0 : ∀ h, pcW S.kt (fun _ _ _ _ => False) (fun _ _ _ _ _ => False) f v h → p h) (h1 : ∀ n h, pcW S.kt (obW S.kt (pcN S.kt n)) (rwW S.kt (pcN S.kt n)) f v h → p h) : ∀ h, pcS S.kt f v h → p h := fun h ⟨n, hn⟩ => by
  cases n with
  | zero => exact h0 h hn
  | succ n => exact h1 n h hn
theorem asO {k : IntKind} {x : Int} (s : Sat B w (pcS S.kt (.i k x) v :: L)) : v = .int k x ∧ Sat B w L := by
  have s1 : Sat B w (ag0 (v = .int k x) :: L) := aa0 (ag7 (f := .i k x) (fun _ h => h) fun _ _ h => h) s
  obtain ⟨h, H, k1, k2, a, e, h1, h2⟩ := s1
  exact ⟨h1, s.drop⟩
theorem arc {c : Nat} {xs : List (S.T c)} (s : Sat B w (pcS S.kt (.ro c xs) v :: L)) : ∃ A cap, v = .slice A xs.length cap ∧ Sl (acJ S.kt c) (S.kt.sz c) w w.heap.size A xs := by
  have s1 : Sat B w ((fun h => ∃ A cap, v = .slice A xs.length cap ∧ roS (acJ S.kt c) (S.kt.sz c) A cap xs h) :: L) := aa0 (ag7 (f := .ro c xs) (fun _ h => h) fun _ _ h => h) s
  obtain ⟨h, H, k1, k2, a, e, ⟨A, cap, e1, h1⟩, h2⟩ := s1
  have s2 : Sat B w (roS (acJ S.kt c) (S.kt.sz c) A cap xs :: L) := ⟨h, H, k1, k2, a, e, h1, h2⟩
  exact ⟨A, cap, e1, (aj3 s2 List.mem_cons_self).1⟩
theorem arb {c : Nat} {xss : List (List (S.T c))} (s : Sat B w (pcS S.kt (.rr c xss) v :: L)) : ∃ A cap, v = .slice A xss.length cap ∧ xss.length ≤ 9223372036854775807 ∧ ∃ ps : List (Option Addr × Nat),
    ∀ (i : Nat) xs, xss[i]? = some xs → ∃ a, ps[i]? = some a ∧ (Sl (acJ S.kt c) (S.kt.sz c) w w.heap.size a.1 xs ∧ xs.length ≤ a.2) ∧ ∃ b o, A = some ⟨b, o, none⟩ ∧ b < w.heap.size ∧ w.cell? ⟨b, o + i, none⟩ = some (.slice a.1 xs.length a.2) := by
  have s1 : Sat B w ((fun h => ∃ A cap, v = .slice A xss.length cap ∧ rrS (acJ S.kt c) (S.kt.sz c) A cap xss h) :: L) := aa0 (ag7 (f := .rr c xss) (fun _ h => h) fun _ _ h => h) s
  obtain ⟨h, H, k1, k2, a, e, ⟨A, cap, e1, ps, h1⟩, h2⟩ := s1
  have s2 : Sat B w (adp _ :: L) := ⟨h, H, k1, k2, a, e, h1, h2⟩
  have h3 := ag9 s2 List.mem_cons_self
  exact ⟨A, cap, e1, h3.1.1, ps, h3.2⟩
theorem alZ {f : Fl S.T S.M} {fs : List (Fl S.T S.M)} {us : List Value} (s : Sat B w (fsS (pcS S.kt) (f :: fs) us ++ L)) : ∃ u us', us = u :: us' ∧ Sat B w (pcS S.kt f u :: (fsS (pcS S.kt) fs us' ++ L)) := by
  cases us with
  | nil => exact aaN s
  | cons u us' => exact ⟨u, us', rfl, s⟩
theorem apQ {us : List Value} (s : Sat B w (fsS (pcS S.kt) [] us ++ L)) : us = [] ∧ Sat B w L := by
  cases us with
  | nil => exact ⟨rfl, s⟩
  | cons u us' => exact aaN s
theorem af5 {k : IntKind} {x : Int} {fs : List (Fl S.T S.M)} {us : List Value} (s : Sat B w (fsS (pcS S.kt) (.i k x :: fs) us ++ L)) : ∃ us', us = .int k x :: us' ∧ Sat B w (fsS (pcS S.kt) fs us' ++ L) := by
  obtain ⟨u, us', e, s1⟩ := alZ s
  obtain ⟨e2, s2⟩ := asO s1
  subst e2
  exact ⟨us', e, s2⟩
def amh : List (Fl S.T S.M) → Bool
  | [] => true
  | .i .. :: l => amh l
  | .b .. :: l => amh l
  | _ => false
theorem agw : ∀ (fs : List (Fl S.T S.M)) (h : Hp), amh fs = true → aba (fsS (pcS S.kt) fs (fs.map flV)) h
  | [], _, _ => trivial
  | .i k x :: l, h, hp => ⟨fun _ _ => none, h, fun _ _ => .inl rfl, by funext a b; rfl, ⟨0, rfl⟩, agw l h hp⟩
  | .b x :: l, h, hp => ⟨fun _ _ => none, h, fun _ _ => .inl rfl, by funext a b; rfl, ⟨0, rfl⟩, agw l h hp⟩
theorem afH {k : IntKind} {x : Int} (s : Sat B w L) : Sat B w (pcS S.kt (.i k x) (.int k x) :: L) := abb s fun _ => ⟨0, rfl⟩
end
section
variable {S : Shp} {B : Nat} {w : World} {L : List aag}
theorem ajf {c : Nat} (hp : ∀ x, amh (S.kt.vw c x) = true) : ∀ (xs : List (S.T c)) (h : Hp), aba (abj S.kt (pcS S.kt) c xs (xs.map (acJ S.kt c))) h
  | [], _ => trivial
  | x :: xs, h => aan.2 ⟨fun _ _ => none, h, fun _ _ => .inl rfl, by funext a b; rfl, agw _ _ (hp x), ajf hp xs h⟩
theorem aiq {c cap : Nat} {A : Option Addr} {xs : List (S.T c)} (hp : ∀ x, amh (S.kt.vw c x) = true) (s : Sat B w (acx A xs.length cap (S.kt.sz c) (xs.flatMap (acJ S.kt c)) :: L)) : Sat B w (pcS S.kt (.row c xs) (.slice A xs.length cap) :: L) := by
  refine aa0 (fun k hk => aaI.2 (show pcW S.kt (obS S.kt) (rwS S.kt) (.row c xs) _ k from ⟨A, cap, rfl, abL.2 ⟨xs.map (acJ S.kt c), ?_⟩⟩)) s
  have e : (xs.map (acJ S.kt c)).flatten = xs.flatMap (acJ S.kt c) := by rw [List.flatMap_def]
  rw [e]
  exact ⟨k, fun _ _ => none, fun _ _ => .inr (.inl rfl), by funext a b; unfold abO; cases k a b <;> rfl, hk, ajf hp xs _⟩
end
section
variable {B : Nat} {w : World} {L : List aag} {v : Value}
theorem apR {c : Cfg} (s : Sat B w (anJ SR1 13 c v :: L)) : ∃ p, v = ahe c p ∧ af0 w w.heap.size c p ∧ Sat B w L := by
  obtain ⟨us, e, s0⟩ := aj2 s
  have s0' : Sat B w (fsS (pcS SR1.kt) [.i .i64 c.workers, .i .i64 c.levels, .i .i64 c.classes, .i .i64 c.tasks, .i .i64 c.deque, .i .i64 c.heap, .i .i64 c.batch, .i .i64 c.age, .i .i64 c.patience, .rr 3 c.progs, .ro 4 c.subs] us ++ L) := s0
  obtain ⟨us1, rfl, s1⟩ := af5 s0'
  obtain ⟨us2, rfl, s2⟩ := af5 s1
  obtain ⟨us3, rfl, s3⟩ := af5 s2
  obtain ⟨us4, rfl, s4⟩ := af5 s3
  obtain ⟨us5, rfl, s5⟩ := af5 s4
  obtain ⟨us6, rfl, s6⟩ := af5 s5
  obtain ⟨us7, rfl, s7⟩ := af5 s6
  obtain ⟨us8, rfl, s8⟩ := af5 s7
  obtain ⟨us9, rfl, s9⟩ := af5 s8
  obtain ⟨u10, us10, rfl, s10⟩ := alZ s9
  obtain ⟨A, ca, rfl, hl, ps, hA⟩ := arb s10
  obtain ⟨u11, us11, rfl, s11⟩ := alZ s10.drop
  obtain ⟨A2, ca2, rfl, hA2⟩ := arc s11
  obtain ⟨rfl, s12⟩ := apQ s11.drop
  refine ⟨⟨A, ca, A2, ca2⟩, e, ⟨⟨hl, fun hne => ?_⟩, hA2⟩, s12⟩
  cases hp : c.progs with
  | nil => exact absurd hp hne
  | cons x xs =>
    obtain ⟨a0, _, _, b, o, e1, hb, _⟩ := hA 0 x (by rw [hp]; rfl)
    refine ⟨b, o, e1, hb, fun i p hi => ?_⟩
    obtain ⟨a1, g1, g2, b', o', e2, hb', hc'⟩ := hA i p (by rw [hp]; exact hi)
    rw [e1] at e2
    cases e2
    exact ⟨a1.1, a1.2, hc', g2.1⟩
end
end
section
open Go.ChangeShapes Go.WideShapes Go.RowKit Go.Deep
theorem alW {w : World} {a : Addr} {v : Value} (h : w.cell? a = some v) : a = ⟨a.block, a.off, none⟩ ∧ a.block < w.heap.size := by
  unfold World.cell? at h
  split at h
  · rename_i hb
    split at h
    · cases h
    · rename_i hs
      refine ⟨?_, ?_⟩
      · cases a with
        | mk b o s => cases s with
          | none => rfl
          | some k => simp at hs
      · rcases Nat.lt_or_ge a.block w.heap.size with h1 | h1
        · exact h1
        · rw [Array.getElem?_eq_none h1] at hb; cases hb
  · cases h
theorem ao3 (b o n : Nat) : (⟨b, o, none⟩ : Addr).add n = ⟨b, o + n, none⟩ := by
  unfold Addr.add; split
  · rename_i h; simp [h]
  · rfl
theorem afP {α : Type} (Y : Nat → Option α) : ∀ len, (∀ i, i < len → ∃ z, Y i = some z) → ((List.range len).filterMap Y).length = len ∧ ∀ i, i < len → ((List.range len).filterMap Y)[i]? = Y i
  | 0, _ => by simp
  | k + 1, h => by
    obtain ⟨z, hz⟩ := h k (by omega)
    have hk := afP Y k (fun i hi => h i (by omega))
    have e1 : List.filterMap Y [k] = [z] := by simp [hz]
    rw [List.range_succ, List.filterMap_append, e1]
    refine ⟨by simp [hk.1], fun i hi => ?_⟩
    rcases Nat.lt_or_ge i k with h1 | h1
    · rw [List.getElem?_append_left (by rw [hk.1]; exact h1)]; exact hk.2 i h1
    · have e : i = k := by omega
      subst e
      rw [List.getElem?_append_right (by rw [hk.1]; omega), hk.1, hz]; simp
section
variable {H : Type} {enc : TypeId × Value → H} {P : Program} {w : World} {base : Nat} {spare : Nat → Bool} {held : Bool}
theorem agx {α : Type} {en : α → List Value} {sz : Nat} {Q : α → Prop} {t e : TypeId} {fuel : Nat} {cs : List Value} {x : DataW H × List MemPlace} (ht : P.underlying t = some (.slice e)) (hC : P.cellsOf e = sz) (hsz : 0 < sz)
    (hel : ∀ n cs' d, DataW.trod enc P w base spare held n e cs' = some d → cs'.length = sz → ∃ y : α, Q y ∧ cs' = en y) (h : DataW.trod enc P w base spare held fuel t cs = some x) :
    ∃ A cap xs, cs = [.slice A xs.length cap] ∧ Sl en sz w w.heap.size A xs ∧ (∀ y ∈ xs, Q y) ∧ xs.length ≤ cap := by
  rcases open_slice ht h with ⟨h0, _⟩ | ⟨a, len, cap, m, n, D, Pl, hcs, hb, hl, hm, hmm, hx, hi⟩
  · exact ⟨none, 0, [], h0, Sl.nil, by simp, Nat.le_refl _⟩
  · have hm0 : len ≤ m := by rw [hmm]; split <;> omega
    have hY : ∀ i, ∃ y : Option α, i < len → ∃ z, y = some z ∧ Q z ∧ ∀ j u, (en z)[j]? = some u → w.cell? (a.add (i * sz + j)) = some u := by
      intro i
      by_cases hil : i < len
      · obtain ⟨cs', hc, ht'⟩ := hi i (by omega)
        rw [hC] at hc
        obtain ⟨_, hcl, hat⟩ := World.cells?_some hc
        obtain ⟨y, hq, rfl⟩ := hel n cs' _ ht' hcl
        refine ⟨some y, fun _ => ⟨y, rfl, hq, fun j u hu => ?_⟩⟩
        have hj : j < sz := by
          rcases Nat.lt_or_ge j sz with h1 | h1
          · exact h1
          · rw [List.getElem?_eq_none (by omega)] at hu; cases hu
        rw [← Go.Deep.add_add, hat j hj, hu]
      · exact ⟨none, fun h => absurd h hil⟩
    obtain ⟨Y, hY⟩ := Classical.axiomOfChoice hY
    have hlen := afP Y len (fun i hi => (hY i hi).imp fun z h => h.1)
    refine ⟨some a, cap, (List.range len).filterMap Y, by rw [hcs, hlen.1], ⟨by rw [hlen.1]; simp only [maxLen] at hm; omega, fun hne => ?_⟩, fun y hy => ?_, by rw [hlen.1]; exact hl⟩
    · have hpos : 0 < len := by
        rw [← hlen.1]; exact List.length_pos_iff.2 hne
      obtain ⟨cs', hc, _⟩ := hi 0 (by omega)
      rw [hC] at hc
      obtain ⟨_, hcl, hat⟩ := World.cells?_some hc
      have h00 := hat 0 hsz
      rw [List.getElem?_eq_getElem (by omega)] at h00
      have hs := alW h00
      have ea : (a.add (0 * sz)).add 0 = a := by simp [Addr.add]
      rw [ea] at hs
      refine ⟨a.block, a.off, by rw [← hs.1], hs.2, fun i z hz j u hu => ?_⟩
      have hil : i < len := by
        rcases Nat.lt_or_ge i len with h1 | h1
        · exact h1
        · rw [List.getElem?_eq_none (by rw [hlen.1]; exact h1)] at hz; cases hz
      obtain ⟨z', hz', _, hcell⟩ := hY i hil
      rw [hlen.2 i hil, hz'] at hz
      injection hz with hz
      subst hz
      have := hcell j u hu
      rw [hs.1, ao3] at this
      rw [Nat.add_assoc]
      exact this
    · obtain ⟨i, hi1, hi2⟩ := List.mem_filterMap.1 hy
      obtain ⟨z, hz, hq, _⟩ := hY i (List.mem_range.1 hi1)
      rw [hz] at hi2
      injection hi2 with hi2
      rw [← hi2]; exact hq
end
end
section
open Go.ChangeShapes Go.WideShapes Go.RowKit Go.Deep
set_option maxRecDepth 100000
theorem alg : Try.prog.cellsOf 3 = 1 := by kernel_rfl
theorem anl : Try.prog.cellsOf 5 = 1 := by kernel_rfl
theorem ao6 {z : Int} (h : (Lit.int .i64 z).wf = true) : -9223372036854775808 ≤ z ∧ z ≤ 9223372036854775807 := by
  simp [Lit.wf, IntKind.min, IntKind.max, IntKind.bits, IntKind.signed] at h
  omega
section
variable {H : Type} {enc : TypeId × Value → H} {w : World} {base : Nat} {spare : Nat → Bool} {held : Bool}
theorem aot (n : Nat) (cs : List Value) (d : DataW H × List MemPlace) (h : DataW.trod enc Try.prog w base spare held n 3 cs = some d) (_ : cs.length = 1) : ∃ y : Int, (-9223372036854775808 ≤ y ∧ y ≤ 9223372036854775807) ∧ cs = acJ SR1.kt 1 y := by
  obtain ⟨z, hz, _, hw⟩ := DataW.trod_int Try.underlying3 h
  exact ⟨z, ao6 hw, hz⟩
theorem anp (n : Nat) (cs : List Value) (d : DataW H × List MemPlace) (h : DataW.trod enc Try.prog w base spare held n 5 cs = some d) (_ : cs.length = 1) : ∃ y : Int, (0 ≤ y ∧ y ≤ 255) ∧ cs = acJ SR1.kt 17 y := by
  obtain ⟨z, hz, _, hw⟩ := DataW.trod_int Try.underlying5 h
  simp [Lit.wf, IntKind.min, IntKind.max, IntKind.bits, IntKind.signed] at hw
  exact ⟨z, by omega, hz⟩
theorem ahl {t e : TypeId} {r : Reach} {b0 : Nat} {v : Value} {A : Option Addr} {n cap : Nat} (ht : Try.prog.underlying t = some (.slice e)) (hv : Value.okWide Try.prog w r b0 t v) (h1 : v.cells.toList = [.slice A n cap]) : v = .slice A n cap := by
  obtain ⟨a, len, c, rfl⟩ := okWide_slice ht hv
  simp [Value.cells] at h1
  rw [h1.1, h1.2.1, h1.2.2]
theorem an6 {c : Nat} {l : List (SR1.T c)} {v : Value} {A : Option Addr} {cap : Nat} {L : List aag} (hz : 0 < SR1.kt.sz c) (henc : ∀ x, (acJ SR1.kt c x).length = SR1.kt.sz c) (hv : v = .slice A l.length cap) (hS : Sl (acJ SR1.kt c) (SR1.kt.sz c) w w.heap.size A l) (hc : l.length ≤ cap) (s : Sat w.heap.size w L) : Sat w.heap.size w (pcS SR1.kt (.ro c l) v :: L) :=
  aa0 (fun h hr => ⟨0, A, cap, hv, hr⟩) (arf hz henc hS hc s)
theorem aoY {v : Value} {d : DataW H} {p : List MemPlace} {r : Reach} {b0 : Nat} (hv : Value.okWide Try.prog w r b0 27 v) (h : DataW.Trod enc Try.prog w base spare held 27 v d p) : ∃ l : List Int, (∀ x ∈ l, 0 ≤ x ∧ x ≤ 255) ∧ ∀ {L}, Sat w.heap.size w L → Sat w.heap.size w (pcS SR1.kt (.ro 17 l) v :: L) := by
  obtain ⟨fuel, hf⟩ := h
  obtain ⟨A, cap, xs, h1, h2, h3, h4⟩ := agx Try.underlying27 anl (by decide) anp hf
  exact ⟨xs, h3, fun s => an6 (c := 17) (by decide) (fun _ => rfl) (ahl Try.underlying27 hv h1) h2 h4 s⟩
theorem aqk {v : Value} {d : DataW H} {p : List MemPlace} {r : Reach} {b0 : Nat} (hv : Value.okWide Try.prog w r b0 28 v) (h : DataW.Trod enc Try.prog w base spare held 28 v d p) : ∃ l : List Int, (∀ x ∈ l, -9223372036854775808 ≤ x ∧ x ≤ 9223372036854775807) ∧ ∀ {L}, Sat w.heap.size w L → Sat w.heap.size w (pcS SR1.kt (.ro 1 l) v :: L) := by
  obtain ⟨fuel, hf⟩ := h
  obtain ⟨A, cap, xs, h1, h2, h3, h4⟩ := agx Try.underlying28 alg (by decide) aot hf
  exact ⟨xs, h3, fun s => an6 (c := 1) (by decide) (fun _ => rfl) (ahl Try.underlying28 hv h1) h2 h4 s⟩
end
theorem amH [Tb] {f : FuncId} {ps : List Pk} {spec : alp SR1 ps → Option (alo SR1 [.sh .b] × ai4 SR1 ps)} {P : Program} (hf : Nat.blt f aew = true) (h : ao5 SR1 P f ps [.sh .b] spec) {x : alp SR1 ps} {o : ai4 SR1 ps} (hx : spec x = some ((true, ()), o)) {vs : List Value} {w : World} (hg : asI w.heap.size w) (s : Sat w.heap.size w (aik SR1 ps x vs ++ [fun _ => True])) :
    Calls P f vs.toArray w fun e w' => e = .returned (.bool true) ∧ Below w.heap.size w w' := by
  have h0 := h x _ hx w.heap.size w hg vs (fun _ => True) w ⟨Below.refl _ _, Nat.le_refl _, s⟩
  rw [ac8 hf] at h0
  refine h0.mono fun e w' ⟨us, he, hb, _, s'⟩ => ?_
  rcases us with _ | ⟨u, _ | ⟨u2, us⟩⟩
  · exact aaN s'
  · have s2 : Sat w.heap.size w' (ag0 (u = .bool true) :: _) := aa0 (ag7 (f := .b true) (fun _ h => h) fun _ _ h => h) s'
    obtain ⟨_, _, _, _, _, _, h1, _⟩ := s2
    subst h1
    exact ⟨he, hb⟩
  · exact aaN s'.drop
section
variable {B : Nat} {w : World} {L : List aag}
theorem ard {Φ : World → Prop} (hΦ : ∀ u : World, (∀ b o v, b < B → w.cell? ⟨b, o, none⟩ = some v → u.cell? ⟨b, o, none⟩ = some v) → Φ u) (s : Sat B w L) : Sat B w (adp Φ :: L) := by
  obtain ⟨h, H, hs⟩ := s
  refine ⟨abO (fun b o => if b < B then (w.cell? ⟨b, o, none⟩).map .look else none) h, ?_, _, h, ?_, rfl, ?_, hs⟩
  · intro b o x hx
    unfold abO at hx
    by_cases hb : b < B
    · simp only [if_pos hb] at hx
      cases hv : w.cell? ⟨b, o, none⟩ with
      | none => rw [hv] at hx; exact H b o x hx
      | some v =>
        rw [hv] at hx
        obtain rfl := Option.some.inj hx
        exact ⟨.inr trivial, hv⟩
    · simp only [if_neg hb] at hx
      exact H b o x hx
  · intro b o
    by_cases hb : b < B
    · simp only [if_pos hb]
      cases hv : w.cell? ⟨b, o, none⟩ with
      | none => exact .inl rfl
      | some v =>
        cases hh : h b o with
        | none => exact .inr (.inl rfl)
        | some y =>
          obtain ⟨h1, h2⟩ := H b o y hh
          cases y with
          | cell v' => exact absurd (h1.resolve_right id) (by omega)
          | obj v' => exact absurd (h1.resolve_right id) (by omega)
          | look v' =>
            have h3 : w.cell? ⟨b, o, none⟩ = some v' := h2
            rw [hv] at h3
            obtain rfl := Option.some.inj h3
            exact .inr (.inr ⟨v, rfl, rfl⟩)
    · simp only [if_neg hb]; exact .inl rfl
  · refine ⟨fun b o => if b < B then (w.cell? ⟨b, o, none⟩).map .look else none, fun b o x hx => ⟨?_, hx⟩, fun u hu => hΦ u fun b o v hb hv => ?_⟩
    · by_cases hb : b < B
      · simp only [if_pos hb] at hx
        cases hv : w.cell? ⟨b, o, none⟩ with
        | none => rw [hv] at hx; cases hx
        | some v => rw [hv] at hx; exact ⟨v, (Option.some.inj hx).symm⟩
      · simp only [if_neg hb] at hx; cases hx
    · exact hu b o (.look v) (by simp only [if_pos hb, hv]; rfl)
theorem asN {α : Type} {enc : α → List Value} {sz : Nat} {A : Option Addr} {xs : List α} {u : World} (hz : 0 < sz) (henc : ∀ x, (enc x).length = sz) (hS : Sl enc sz w B A xs) (hu : ∀ b o v, b < B → w.cell? ⟨b, o, none⟩ = some v → u.cell? ⟨b, o, none⟩ = some v) : Sl enc sz u u.heap.size A xs := by
  refine ⟨hS.1, fun hne => ?_⟩
  obtain ⟨b, o, hA, hb, hcell⟩ := hS.2 hne
  have key : ∀ (i : Nat) x, xs[i]? = some x → ∀ (j : Nat) v, (enc x)[j]? = some v → u.cell? ⟨b, o + i * sz + j, none⟩ = some v := fun i x hx j v hv => hu _ _ _ hb (hcell i x hx j v hv)
  refine ⟨b, o, hA, ?_, key⟩
  cases xs with
  | nil => exact absurd rfl hne
  | cons x xs =>
    cases hx : enc x with
    | nil => have := henc x; rw [hx] at this; simp at this; omega
    | cons y ys => exact afm (key 0 x rfl 0 y (by rw [hx]; rfl))
end
theorem aoW : Try.prog.cellsOf 59 = 3 := by kernel_rfl
theorem aoU : Try.prog.cellsOf 61 = 3 := by kernel_rfl
theorem aoV : Try.prog.cellsOf 38 = 1 := by kernel_rfl
theorem aoX : Try.prog.cellsOf 25 = 11 := by kernel_rfl
theorem aqQ : Try.prog.cellsOf 22 = 1 := by kernel_rfl
theorem aqP : Try.prog.cellsOf 23 = 1 := by kernel_rfl
structure RowAt where
  a : Option Addr
  c : Nat
  p : List Ins
def RowAt.enc (y : RowAt) : List Value := [.slice y.a y.p.length y.c]
abbrev ai2 (z : Int) : Prop := -9223372036854775808 ≤ z ∧ z ≤ 9223372036854775807
section
variable {H : Type} {enc : TypeId × Value → H} {w : World} {base : Nat} {spare : Nat → Bool} {held : Bool}
theorem aa6 {n o : Nat} {cs : List Value} {d : DataW H × List MemPlace} (h : DataW.trod enc Try.prog w base spare held n 3 ((cs.drop o).take (Try.prog.cellsOf 3)) = some d) : ∃ z : Int, ai2 z ∧ cs[o]? = some (.int .i64 z) := by
  obtain ⟨z, hz, _, hw⟩ := DataW.trod_int Try.underlying3 h
  rw [alg] at hz
  refine ⟨z, ao6 hw, ?_⟩
  have := congrArg (fun l : List Value => l[0]?) hz
  simpa using this
theorem anT {cs : List Value} {a b c : Value} (hl : cs.length = 3) (h0 : cs[0]? = some a) (h1 : cs[1]? = some b) (h2 : cs[2]? = some c) : cs = [a, b, c] := by
  match cs, hl with
  | [x, y, z], _ => simp at h0 h1 h2; subst h0 h1 h2; rfl
theorem aov (n : Nat) (cs : List Value) (d : DataW H × List MemPlace) (h : DataW.trod enc Try.prog w base spare held n 59 cs = some d) (hl : cs.length = 3) : ∃ y : Ins, (ai2 y.op ∧ ai2 y.a ∧ ai2 y.b) ∧ cs = acJ SR1.kt 3 y := by
  obtain ⟨xs, m, _, _, _, hx, hf⟩ := DataW.trod_struct Try.underlying59 h
  match xs, hx with
  | [x0, x1, x2], _ =>
    obtain ⟨a, ha, ea⟩ := aa6 (hf 0 _ rfl)
    obtain ⟨b, hb, eb⟩ := aa6 (hf 1 _ rfl)
    obtain ⟨c, hc, ec⟩ := aa6 (hf 2 _ rfl)
    exact ⟨⟨a, b, c⟩, ⟨ha, hb, hc⟩, anT hl ea eb ec⟩
theorem anU (n : Nat) (cs : List Value) (d : DataW H × List MemPlace) (h : DataW.trod enc Try.prog w base spare held n 61 cs = some d) (hl : cs.length = 3) : ∃ y : Sub, (ai2 y.prog ∧ ai2 y.level ∧ ai2 y.deadline) ∧ cs = acJ SR1.kt 4 y := by
  obtain ⟨xs, m, _, _, _, hx, hf⟩ := DataW.trod_struct Try.underlying61 h
  match xs, hx with
  | [x0, x1, x2], _ =>
    obtain ⟨a, ha, ea⟩ := aa6 (hf 0 _ rfl)
    obtain ⟨b, hb, eb⟩ := aa6 (hf 1 _ rfl)
    obtain ⟨c, hc, ec⟩ := aa6 (hf 2 _ rfl)
    exact ⟨⟨a, b, c⟩, ⟨ha, hb, hc⟩, anT hl ea eb ec⟩
theorem an4 (n : Nat) (cs : List Value) (d : DataW H × List MemPlace) (h : DataW.trod enc Try.prog w base spare held n 38 cs = some d) (_ : cs.length = 1) : ∃ y : RowAt, (Sl (acJ SR1.kt 3) 3 w w.heap.size y.a y.p ∧ y.p.length ≤ y.c) ∧ cs = y.enc := by
  obtain ⟨A, cap, xs, h1, h2, _, h4⟩ := agx Try.underlying38 aoW (by decide) aov h
  exact ⟨⟨A, cap, xs⟩, ⟨h2, h4⟩, h1⟩
theorem asP {n : Nat} {cs : List Value} {d : DataW H × List MemPlace} (h : DataW.trod enc Try.prog w base spare held n 22 cs = some d) : ∃ A cap, ∃ ps : List (List Ins), cs = [.slice A ps.length cap] ∧ ∀ {L}, Sat w.heap.size w L → Sat w.heap.size w (pcS SR1.kt (.rr 3 ps) (.slice A ps.length cap) :: L) := by
  obtain ⟨A, cap, ys, h1, h2, h3, h4⟩ := agx Try.underlying22 aoV (by decide) an4 h
  refine ⟨A, cap, ys.map (·.p), by simpa using h1, fun {L} s => ?_⟩
  have hlen : (ys.map (·.p)).length = ys.length := List.length_map ..
  have s1 := ard (Φ := fun u => ((ys.map (·.p)).length ≤ 9223372036854775807 ∧ (ys.map (·.p)).length ≤ cap) ∧ ∀ (i : Nat) (xs : List Ins), (ys.map (·.p))[i]? = some xs → ∃ a, (ys.map fun y => (y.a, y.c))[i]? = some a ∧ (Sl (acJ SR1.kt 3) (SR1.kt.sz 3) u u.heap.size a.1 xs ∧ xs.length ≤ a.2) ∧ ∃ b o, A = some ⟨b, o, none⟩ ∧ b < u.heap.size ∧ u.cell? ⟨b, o + i, none⟩ = some (.slice a.1 xs.length a.2)) (fun u hu => ?_) s
  · refine aa0 (fun k hk => ?_) s1
    refine ⟨0, A, cap, rfl, (ys.map fun (y : RowAt) => (y.a, y.c)), ?_⟩
    exact hk
  · rw [hlen]
    refine ⟨⟨h2.1, h4⟩, fun i xs hi => ?_⟩
    rw [List.getElem?_map] at hi
    cases hy : ys[i]? with
    | none => rw [hy] at hi; cases hi
    | some y =>
      rw [hy] at hi
      obtain rfl := Option.some.inj hi
      have hmem := List.mem_of_getElem? hy
      have hne : ys ≠ [] := fun e => by rw [e] at hmem; cases hmem
      obtain ⟨b, o, e, hb, hc⟩ := h2.2 hne
      have hcell := hu _ _ _ hb (hc i y hy 0 _ rfl)
      rw [Nat.mul_one, Nat.add_zero] at hcell
      exact ⟨(y.a, y.c), by rw [List.getElem?_map, hy]; rfl, ⟨asN (by decide) (fun _ => rfl) (h3 y hmem).1 hu, (h3 y hmem).2⟩, b, o, e, afm hcell, hcell⟩
theorem apA {n : Nat} {cs : List Value} {d : DataW H × List MemPlace} (h : DataW.trod enc Try.prog w base spare held n 23 cs = some d) : ∃ A cap, ∃ ss : List Sub, cs = [.slice A ss.length cap] ∧ ∀ {L}, Sat w.heap.size w L → Sat w.heap.size w (pcS SR1.kt (.ro 4 ss) (.slice A ss.length cap) :: L) := by
  obtain ⟨A, cap, xs, h1, h2, _, h4⟩ := agx Try.underlying23 aoU (by decide) anU h
  exact ⟨A, cap, xs, h1, fun s => an6 (c := 4) (by decide) (fun _ => rfl) rfl h2 h4 s⟩
theorem apg {cs : List Value} {o : Nat} {v : Value} (h : (cs.drop o).take 1 = [v]) : cs[o]? = some v := by
  have := congrArg (fun l : List Value => l[0]?) h
  simpa using this
theorem ase {r : Reach} {b0 : Nat} {v : Value} {d : DataW H} {p : List MemPlace} (hv : Value.okWide Try.prog w r b0 25 v) (h : DataW.Trod enc Try.prog w base spare held 25 v d p) :
    ∃ c : Cfg, True ∧ ∀ {L}, Sat w.heap.size w L → Sat w.heap.size w (anJ SR1 13 c v :: L) := by
  obtain ⟨cs, rfl, hsz⟩ := okWide_struct Try.underlying25 hv
  obtain ⟨fuel, hf⟩ := h
  obtain ⟨xs, m, _, _, _, hx, hg⟩ := DataW.trod_struct Try.underlying25 hf
  match xs, hx with
  | [x0, x1, x2, x3, x4, x5, x6, x7, x8, x9, x10], _ =>
    obtain ⟨a0, _, e0⟩ := aa6 (hg 0 _ rfl)
    obtain ⟨a1, _, e1⟩ := aa6 (hg 1 _ rfl)
    obtain ⟨a2, _, e2⟩ := aa6 (hg 2 _ rfl)
    obtain ⟨a3, _, e3⟩ := aa6 (hg 3 _ rfl)
    obtain ⟨a4, _, e4⟩ := aa6 (hg 4 _ rfl)
    obtain ⟨a5, _, e5⟩ := aa6 (hg 5 _ rfl)
    obtain ⟨a6, _, e6⟩ := aa6 (hg 6 _ rfl)
    obtain ⟨a7, _, e7⟩ := aa6 (hg 7 _ rfl)
    obtain ⟨a8, _, e8⟩ := aa6 (hg 8 _ rfl)
    obtain ⟨pa, pc, ps, hp1, hp2⟩ := asP (hg 9 _ rfl)
    obtain ⟨sa, sc, ss, hs1, hs2⟩ := apA (hg 10 _ rfl)
    have h9 := aqQ
    have h10 := aqP
    replace hp1 : ((Value.agg cs).cells.toList.drop 9).take (Try.prog.cellsOf 22) = [.slice pa ps.length pc] := hp1
    replace hs1 : ((Value.agg cs).cells.toList.drop 10).take (Try.prog.cellsOf 23) = [.slice sa ss.length sc] := hs1
    rw [h9] at hp1
    rw [h10] at hs1
    have e9 := apg hp1
    have e10 := apg hs1
    obtain ⟨l⟩ := cs
    have hl : l.length = 11 := hsz.trans aoX
    match l, hl, e0, e1, e2, e3, e4, e5, e6, e7, e8, e9, e10 with
    | [y0, y1, y2, y3, y4, y5, y6, y7, y8, y9, y10], _, e0, e1, e2, e3, e4, e5, e6, e7, e8, e9, e10 =>
      obtain rfl : y0 = _ := Option.some.inj e0
      obtain rfl : y1 = _ := Option.some.inj e1
      obtain rfl : y2 = _ := Option.some.inj e2
      obtain rfl : y3 = _ := Option.some.inj e3
      obtain rfl : y4 = _ := Option.some.inj e4
      obtain rfl : y5 = _ := Option.some.inj e5
      obtain rfl : y6 = _ := Option.some.inj e6
      obtain rfl : y7 = _ := Option.some.inj e7
      obtain rfl : y8 = _ := Option.some.inj e8
      obtain rfl : y9 = _ := Option.some.inj e9
      obtain rfl : y10 = _ := Option.some.inj e10
      refine ⟨⟨a0, a1, a2, a3, a4, a5, a6, a7, a8, ps, ss⟩, trivial, fun {L} s => ?_⟩
      have s1 : Sat w.heap.size w (fsS (pcS SR1.kt) (SR1.kt.vw 13 (⟨a0, a1, a2, a3, a4, a5, a6, a7, a8, ps, ss⟩ : Cfg)) [.int .i64 a0, .int .i64 a1, .int .i64 a2, .int .i64 a3, .int .i64 a4, .int .i64 a5, .int .i64 a6, .int .i64 a7, .int .i64 a8, .slice pa ps.length pc, .slice sa ss.length sc] ++ L) :=
        afH (S := SR1) (afH (S := SR1) (afH (S := SR1) (afH (S := SR1) (afH (S := SR1) (afH (S := SR1) (afH (S := SR1) (afH (S := SR1) (afH (S := SR1) (hp2 (hs2 s))))))))))
      exact aef (fun k hk => ⟨_, rfl, hk⟩) s1
end
theorem aqR : Try.prog.cellsOf 34 = 5 := by kernel_rfl
section
variable {H : Type} {enc : TypeId × Value → H} {w : World} {base : Nat} {spare : Nat → Bool} {held : Bool}
theorem auq {cs : List Value} {a b c d e : Value} (hl : cs.length = 5) (h0 : cs[0]? = some a) (h1 : cs[1]? = some b) (h2 : cs[2]? = some c) (h3 : cs[3]? = some d) (h4 : cs[4]? = some e) : cs = [a, b, c, d, e] := by
  match cs, hl with
  | [x, y, z, u, v], _ => simp at h0 h1 h2 h3 h4; subst h0 h1 h2 h3 h4; rfl
theorem aqt (n : Nat) (cs : List Value) (d : DataW H × List MemPlace) (h : DataW.trod enc Try.prog w base spare held n 34 cs = some d) (hl : cs.length = 5) : ∃ y : Ev, ai2 y.kind ∧ cs = acJ SR1.kt 2 y := by
  obtain ⟨xs, m, _, _, _, hx, hf⟩ := DataW.trod_struct Try.underlying34 h
  match xs, hx with
  | [x0, x1, x2, x3, x4], _ =>
    obtain ⟨a, ha, ea⟩ := aa6 (hf 0 _ rfl)
    obtain ⟨b, hb, eb⟩ := aa6 (hf 1 _ rfl)
    obtain ⟨c, hc, ec⟩ := aa6 (hf 2 _ rfl)
    obtain ⟨e, he, ee⟩ := aa6 (hf 3 _ rfl)
    obtain ⟨f, hf, ef⟩ := aa6 (hf 4 _ rfl)
    exact ⟨⟨a, b, c, e, f⟩, ha, auq hl ea eb ec ee ef⟩
theorem amW {v : Value} {d : DataW H} {p : List MemPlace} {r : Reach} {b0 : Nat} (hv : Value.okWide Try.prog w r b0 26 v) (h : DataW.Trod enc Try.prog w base spare held 26 v d p) : ∃ l : List Ev, (∀ x ∈ l, ai2 x.kind) ∧ ∀ {L}, Sat w.heap.size w L → Sat w.heap.size w (pcS SR1.kt (.ro 2 l) v :: L) := by
  obtain ⟨fuel, hf⟩ := h
  obtain ⟨A, cap, xs, h1, h2, h3, h4⟩ := agx Try.underlying26 aqR (by decide) aqt hf
  exact ⟨xs, h3, fun s => an6 (c := 2) (by decide) (fun _ => rfl) (ahl Try.underlying26 hv h1) h2 h4 s⟩
end
end
end Go.Proofs.Ytkmkhldmflebkaa
