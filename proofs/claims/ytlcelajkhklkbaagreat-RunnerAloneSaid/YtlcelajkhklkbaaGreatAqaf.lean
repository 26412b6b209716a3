/- Evaluation by itself: an element of a row, taken out of it. No program occurs here. Evaluation by itself, 8: operations, regions. No program occurs here. -/
import Derived.Test.YtlcelajkhklkbaaGreatAqad
import Derived.Test.YtlcelajkhklkbaaGreatAqae
import Derived.Test.YtlcelajkhklkbaaGreatAqac
set_option linter.all false
namespace Go.Proofs.YtlcelajkhklkbaaGreat
section
open Go Go.RowKit
section
variable {K : KT} {B : Nat} {w : World} {ρ : Env}
theorem au1 {H : KT.H K} {e j c : Nat} {i : Int} {xs : List (K.T c)} {X : List aah} (hel : get H e = some (.elt j i (K.sz c))) (hg : get H j = some (.row c xs)) (s : Sat B w (dH K ρ H ++ X)) :
    Sat B w (abN K ρ e (.cells ((K.vw c (atL (K.df c) xs i)).map .f)) :: abN K ρ j (.gap c xs i e) :: (dH K ρ (del H j) ++ X)) := by
  obtain ⟨hi, b, o2, hA, hp⟩ := ao8 s hel
  obtain ⟨hn, vss, h2, h3, s2⟩ := aiz s hg
  rw [hn] at hi
  have hxi := aej (d := K.df c) hi
  have hlt : i.toNat < vss.length := by omega
  have hvs : vss[i.toNat]? = some vss[i.toNat] := List.getElem?_eq_getElem hlt
  have hvl := h3 _ (List.getElem_mem hlt)
  obtain ⟨hh, Hh, k1, k2, a, e1, ⟨r1, r2, r3, r4⟩, hL⟩ := s2
  rcases r4 with ⟨r4, _⟩ | ⟨b', o', spare, hA', hsp, hpts⟩
  · rw [r4] at hA; cases hA
  · rw [hA] at hA'
    cases hA'
    obtain ⟨N, p1, p2⟩ := agp (pc := pcS K) hxi hvs
    have hfl := ac6 h3
    have hlow : i.toNat * K.sz c + K.sz c ≤ vss.flatten.length := by
      rw [hfl]
      have : (i.toNat + 1) * K.sz c ≤ vss.length * K.sz c := Nat.mul_le_mul_right _ hlt
      rw [Nat.add_mul] at this; omega
    have hmid : (vss.flatten.drop (i.toNat * K.sz c)).take (K.sz c) = vss[i.toNat] := by
      apply List.ext_getElem?
      intro q
      by_cases hq : q < K.sz c
      · rw [List.getElem?_take_of_lt hq, List.getElem?_drop]
        rw [aip h3 hvs (v := (vss[i.toNat])[q]'(by omega)) (List.getElem?_eq_getElem _), List.getElem?_eq_getElem]
      · rw [List.getElem?_eq_none (by rw [List.length_take, List.length_drop]; omega), List.getElem?_eq_none (by omega)]
    have e2 : vss.flatten ++ spare = vss.flatten.take (i.toNat * K.sz c) ++ (vss[i.toNat] ++ (vss.flatten.drop (i.toNat * K.sz c + K.sz c) ++ spare)) := by
      rw [← hmid, ← List.drop_drop, ← List.append_assoc (List.take _ _), ← List.append_assoc, List.append_assoc (List.take (i.toNat * K.sz c) _), List.take_append_drop, List.take_append_drop]
    have t1 : Sat B w (pts b o2 (vss.flatten.take (i.toNat * K.sz c) ++ (vss[i.toNat] ++ (vss.flatten.drop (i.toNat * K.sz c + K.sz c) ++ spare))) :: (abJ K (pcS K) c xs vss ++ (dH K ρ (del H j) ++ X))) := by
      rw [← e2]; exact ⟨hh, Hh, k1, k2, a, e1, hpts, hL⟩
    have t2 := t1.imp ake
    have htl : (vss.flatten.take (i.toNat * K.sz c)).length = i.toNat * K.sz c := by rw [List.length_take]; omega
    rw [htl] at t2
    have t3 := (t2.perm (List.Perm.swap ..)).imp ake
    rw [hvl] at t3
    have t4 : Sat B w ((pts b (o2 + i.toNat * K.sz c) vss[i.toNat] :: fsS (pcS K) (K.vw c (atL (K.df c) xs i)) vss[i.toNat]) ++ ((pts b o2 (vss.flatten.take (i.toNat * K.sz c)) :: pts b (o2 + i.toNat * K.sz c + K.sz c) (vss.flatten.drop (i.toNat * K.sz c + K.sz c) ++ spare) :: N) ++ (dH K ρ (del H j) ++ X))) := by
      refine t3.perm ?_
      simp only [List.cons_append]
      refine List.Perm.cons _ ?_
      refine (List.Perm.swap ..).trans ?_
      refine List.Perm.trans ?_ (List.perm_middle).symm
      refine List.Perm.cons _ ?_
      refine List.Perm.trans ?_ (List.perm_middle).symm
      refine List.Perm.cons _ ?_
      exact (p1.append_right _).trans (by rw [List.append_assoc])
    have t5 : Sat B w (abN K ρ e (.cells ((K.vw c (atL (K.df c) xs i)).map .f)) :: ((pts b o2 (vss.flatten.take (i.toNat * K.sz c)) :: pts b (o2 + i.toNat * K.sz c + K.sz c) (vss.flatten.drop (i.toNat * K.sz c + K.sz c) ++ spare) :: N) ++ (dH K ρ (del H j) ++ X))) := by
      refine ago (fun k hk => ⟨vss[i.toNat], ?_⟩) t4
      show abh (pts (ρ.p e).1 (ρ.p e).2 vss[i.toNat] :: fsS (fS K ρ) (List.map Fd.f (K.vw c (atL (K.df c) xs i))) vss[i.toNat]) k
      rw [hp, al9 (pcS K) (fS K ρ) (fun x v => rfl)]
      exact hk
    have t6 := t5.perm (List.perm_middle (l₁ := pts b o2 (vss.flatten.take (i.toNat * K.sz c)) :: pts b (o2 + i.toNat * K.sz c + K.sz c) (vss.flatten.drop (i.toNat * K.sz c + K.sz c) ++ spare) :: N) (l₂ := dH K ρ (del H j) ++ X)).symm
    have t7 : Sat B w (abN K ρ j (.gap c xs i e) :: (abN K ρ e (.cells ((K.vw c (atL (K.df c) xs i)).map .f)) :: (dH K ρ (del H j) ++ X))) := by
      refine ago (fun k hk => ?_) t6
      exact ⟨b, o2, vss, spare, N, hi, ⟨hA, hn, hp⟩, ⟨by omega, h3⟩, ⟨r2, r3, hsp⟩, fun x' vs' => p2 x' vs', hk⟩
    exact t7.perm (List.Perm.swap ..)
theorem atc {H H1 : KT.H K} {e j c : Nat} {i : Int} {xs : List (K.T c)} {fs : List (Fd K.T K.M)} {l : List (Fl K.T K.M)} {x : K.T c} {X : List aah} (hg : get H j = some (.gap c xs i e)) (he : get (del H j) e = some (.cells fs))
    (hl : apr K (asm K) (del (del H j) e) (K.vw c (K.df c)) fs = some (l, H1)) (hx : K.bk c l = some x) (s : Sat B w (dH K ρ H ++ X)) :
    Sat B w (abN K ρ e (.elt j i (K.sz c)) :: abN K ρ j (.row c (xs.set i.toNat x)) :: (dH K ρ H1 ++ X)) := by
  have s0 := s.imp (aaR (ρ := ρ) hg)
  have s1 : Sat B w (dH K ρ (del H j) ++ (abN K ρ j (.gap c xs i e) :: X)) := s0.perm (List.perm_middle (l₁ := dH K ρ (del H j))).symm
  obtain ⟨vs, s2⟩ := afQ (s1.imp (aaR (ρ := ρ) he))
  have hlen := ahM s2
  have s3 : Sat B w (fsS (fS K ρ) fs vs ++ (dH K ρ (del (del H j) e) ++ (pts (ρ.p e).1 (ρ.p e).2 vs :: abN K ρ j (.gap c xs i e) :: X))) := s2.perm (aaw fun f g h1 h2 h3 => by simp only [h1, h2, h3]; omega)
  have s4 := ahe amv hl s3
  have hv : (K.vw c x).length = vs.length := by
    have e1 := K.bk_ok _ _ _ hx
    rw [e1]
    have := ahM (A := fun _ => True) (abu s4 fun _ => trivial)
    exact this
  rw [K.sz_ok] at hv
  rw [← K.bk_ok _ _ _ hx] at s4
  have s5 : Sat B w (abN K ρ j (.gap c xs i e) :: ((pts (ρ.p e).1 (ρ.p e).2 vs :: fsS (pcS K) (K.vw c x) vs) ++ (dH K ρ H1 ++ X))) := s4.perm (aaw fun f g h1 h2 h3 => by simp only [h1, h2, h3]; omega)
  obtain ⟨h', Hh', j1, j2, a', e', ⟨b, o, vss, spare, N, hi, ⟨hA, hn, hq⟩, ⟨hvl, hvz⟩, ⟨hc1, hc2, hc3⟩, hperm, hst⟩, hL'⟩ := s5
  have s6 : Sat B w ((pts b o (vss.flatten.take (i.toNat * K.sz c)) :: pts b (o + i.toNat * K.sz c + K.sz c) (vss.flatten.drop (i.toNat * K.sz c + K.sz c) ++ spare) :: N) ++ ((pts (ρ.p e).1 (ρ.p e).2 vs :: fsS (pcS K) (K.vw c x) vs) ++ (dH K ρ H1 ++ X))) := ⟨h', Hh', aao.2 ⟨j1, j2, a', e', hst, hL'⟩⟩
  rw [hq] at s6
  have hlt : i.toNat < vss.length := by omega
  have hvs : vss[i.toNat]? = some vss[i.toNat] := List.getElem?_eq_getElem hlt
  have hfl := ac6 hvz
  have hlow : i.toNat * K.sz c + K.sz c ≤ vss.flatten.length := by
    rw [hfl]
    have : (i.toNat + 1) * K.sz c ≤ vss.length * K.sz c := Nat.mul_le_mul_right _ hlt
    rw [Nat.add_mul] at this; omega
  have htl : (vss.flatten.take (i.toNat * K.sz c)).length = i.toNat * K.sz c := by rw [List.length_take]; omega
  have s7 : Sat B w (pts b (o + i.toNat * K.sz c) vs :: pts b (o + i.toNat * K.sz c + K.sz c) (vss.flatten.drop (i.toNat * K.sz c + K.sz c) ++ spare) :: (pts b o (vss.flatten.take (i.toNat * K.sz c)) :: (fsS (pcS K) (K.vw c x) vs ++ N) ++ (dH K ρ H1 ++ X))) := s6.perm (aaw fun f g h1 h2 h3 => by simp only [h1, h2, h3]; omega)
  have s8 := s7.imp (akf (by rw [← hv]))
  have s9 := (s8.perm (List.Perm.swap ..)).imp (akf (by rw [htl]))
  have e2 : vss.flatten.take (i.toNat * K.sz c) ++ (vs ++ (vss.flatten.drop (i.toNat * K.sz c + K.sz c) ++ spare)) = (vss.set i.toNat vs).flatten ++ spare := by
    have := ag6 (o := 0) (us := vs) hvz hvs (by omega)
    have e3 : (vss[i.toNat]).take 0 ++ vs ++ (vss[i.toNat]).drop (0 + vs.length) = vs := by
      have := hvz _ (List.getElem_mem hlt)
      rw [List.drop_eq_nil_of_le (by omega)]; simp
    rw [e3, Nat.add_zero, ← hv] at this
    rw [this]; simp only [List.append_assoc]
  rw [e2] at s9
  have s10 : Sat B w ((pts b o ((vss.set i.toNat vs).flatten ++ spare) :: abJ K (pcS K) c (xs.set i.toNat x) (vss.set i.toNat vs)) ++ (dH K ρ H1 ++ X)) := s9.perm (List.Perm.cons _ ((hperm x vs).symm.append_right _))
  have hz2 : ∀ v ∈ vss.set i.toNat vs, v.length = K.sz c := fun v hv' => by
    rcases List.mem_or_eq_of_mem_set hv' with e | e
    · exact hvz v e
    · rw [e, ← hv]
  have s11 : Sat B w (abN K ρ j (.row c (xs.set i.toNat x)) :: (dH K ρ H1 ++ X)) := by
    refine ago (fun k hk => ?_) s10
    obtain ⟨q1, q2, qa, qe, g1, g2⟩ := hk
    refine ⟨by rw [List.length_set]; exact hn, act.2 ⟨vss.set i.toNat vs, q1, q2, qa, qe, ⟨?_, ?_, hc2, .inr ⟨b, o, spare, hA, ?_, g1⟩⟩, g2⟩⟩
    · rw [ac6 hz2, List.length_set, List.length_set, hvl]
    · rw [List.length_set]; exact hc1
    · rw [List.length_set]; exact hc3
  refine abu s11 fun k => ?_
  show aqs ρ e j (K.sz c) i
  exact ⟨⟨hi.1, by rw [hn]; exact hi.2⟩, b, o, hA, hq⟩
end
section
variable (K : KT)
def roF : Fl K.T K.M → Bool
  | .ro .. => true
  | _ => false
def aAH : Fl K.T K.M → Bool
  | .row .. => true
  | _ => false
def auJ (H : KT.H K) (id : Nat) : Option (KT.H K) :=
  match get H id with
  | some (.elt j i sz) => match get H j with
    | some (.row c xs) => match Nat.beq sz (K.sz c) && ((K.vw c (K.df c)).any (aAH K) || (Nat.ble 2 sz && (K.vw c (K.df c)).any (roF K))) with
      | true => some ((id, .cells ((K.vw c (atL (K.df c) xs i)).map .f)) :: (j, .gap c xs i id) :: del (del H j) id)
      | false => none
    | _ => none
  | _ => none
def apa (H : KT.H K) (j : Nat) : Option (KT.H K) :=
  match get H j with
  | some (.gap c xs i e) => match get (del H j) e with
    | some (.cells fs) => match apr K (asm K) (del (del H j) e) (K.vw c (K.df c)) fs with
      | some (l, H1) => match K.bk c l with
        | some x => some ((e, .elt j i (K.sz c)) :: (j, .row c (xs.set i.toNat x)) :: H1)
        | none => none
      | none => none
    | _ => none
  | _ => none
def axs : KT.H K → List Nat
  | [] => []
  | p :: H => match p.2 with
    | .gap .. => p.1 :: axs H
    | _ => axs H
def anb : List Nat → KT.H K → KT.H K
  | [], H => H
  | j :: l, H => match apa K H j with
    | some H' => anb l H'
    | none => anb l H
def azI (H : KT.H K) : KT.H K := anb K (axs K H) H
def au0 : KT.H K → List Nat
  | [] => []
  | p :: H => match p.2 with
    | .gap c .. => match (K.ls 3 c).isSome || (K.ls 1 c).isSome with
      | true => au0 H
      | false => p.1 :: au0 H
    | _ => au0 H
def aAP (H : KT.H K) : KT.H K := anb K (au0 K H) H
def asM (H : KT.H K) (v : V) : Option (KT.H K) :=
  match v with
  | .ptr id _ => match auJ K H id with
    | some H1 => some H1
    | none => match get H id with
      | some (.elt j _ _) => match apa K H j with
        | some H1 => auJ K H1 id
        | none => none
      | _ => none
  | _ => none
end
section
variable {K : KT} {B : Nat} {w : World} {ρ : Env} {X : List aah}
theorem aq7 {H H' : KT.H K} {id : Nat} (h : auJ K H id = some H') (s : Sat B w (dH K ρ H ++ X)) : Sat B w (dH K ρ H' ++ X) := by
  unfold auJ at h
  split at h
  · rename_i j i sz hel
    split at h
    · rename_i c xs hg
      split at h
      · rename_i hB
        cases h
        simp only [Bool.and_eq_true] at hB
        obtain rfl := Nat.eq_of_beq_eq_true hB.1
        have s1 := au1 hel hg s
        have s2 : Sat B w (dH K ρ (del H j) ++ (abN K ρ id (.cells ((K.vw c (atL (K.df c) xs i)).map .f)) :: abN K ρ j (.gap c xs i id) :: X)) := s1.perm (aaw fun f g h1 h2 h3 => by simp only [h1, h2, h3]; omega)
        have s3 := s2.imp (anY (id := id))
        exact s3.perm (aaw fun f g h1 h2 h3 => by simp only [dH, List.map_cons, h1, h2, h3]; omega)
      · cases h
    · cases h
  · cases h
theorem aml {H H' : KT.H K} {j : Nat} (h : apa K H j = some H') (s : Sat B w (dH K ρ H ++ X)) : Sat B w (dH K ρ H' ++ X) := by
  unfold apa at h
  split at h
  · rename_i c xs i e hg
    split at h
    · rename_i fs he
      split at h
      · rename_i l H1 hl
        split at h
        · rename_i x hx
          cases h
          exact atc hg he hl hx s
        · cases h
      · cases h
    · cases h
  · cases h
theorem ajS : ∀ {l : List Nat} {H : KT.H K}, Sat B w (dH K ρ H ++ X) → Sat B w (dH K ρ (anb K l H) ++ X)
  | [], _, s => s
  | j :: l, H, s => by
    unfold anb
    split
    · rename_i H' h; exact ajS (aml h s)
    · exact ajS s
theorem anN {H H' : KT.H K} {v : V} (h : asM K H v = some H') (s : Sat B w (dH K ρ H ++ X)) : Sat B w (dH K ρ H' ++ X) := by
  unfold asM at h
  split at h
  · split at h
    · rename_i h1; cases h; exact aq7 h1 s
    · split at h
      · split at h
        · rename_i h1; exact aq7 h (aml h1 s)
        · cases h
      · cases h
  · cases h
theorem an1 {H : KT.H K} (s : Sat B w (dH K ρ H ++ X)) : Sat B w (dH K ρ (azI K H) ++ X) := ajS s
theorem axO {H : KT.H K} (s : Sat B w (dH K ρ H ++ X)) : Sat B w (dH K ρ (aAP K H) ++ X) := ajS s
end
section
variable (K : KT)
def rd1 (H : KT.H K) (id o : Nat) : Option V := match opn K 0 H id o with
  | some (false, _, v) => some v
  | _ => none
def rdN (H : KT.H K) (id : Nat) : Nat → Nat → Option (List V)
  | 0, _ => some []
  | k + 1, o => match rd1 K H id o with
    | some v => match rdN H id k (o + 1) with
      | some l => some (v :: l)
      | none => none
    | none => none
def ldV (P : Program) (H : KT.H K) (T : TypeId) (x : V) : Option V :=
  match x with
  | .ptr id o => match aek P T with
    | some none => rd1 K H id o
    | some (some k) => (rdN K H id k o).map .agg
    | none => none
  | _ => none
end
section
variable {K : KT} {P : Program} {B : Nat}
theorem aqP {H : KT.H K} {id o : Nat} {v : V} (h : rd1 K H id o = some v) {ρ : Env} {w : World} {X : List aah} (s : Sat B w (dH K ρ H ++ X)) : w.cell? ⟨(ρ.p id).1, (ρ.p id).2 + o, none⟩ = some (aay ρ v) := by
  unfold rd1 at h
  split at h
  · rename_i h1
    cases h
    obtain ⟨ρ', ⟨_, he⟩, _, hc⟩ := aoR (X := fun _ => X) h1 (fun e => by cases e) s
    obtain rfl := he rfl
    exact hc
  · cases h
theorem aqO {H : KT.H K} {id : Nat} : ∀ {k o : Nat} {l : List V}, rdN K H id k o = some l → ∀ {ρ : Env} {w : World} {X : List aah}, Sat B w (dH K ρ H ++ X) → l.length = k ∧ ∀ j v, (aam ρ l)[j]? = some v → w.cell? ⟨(ρ.p id).1, (ρ.p id).2 + o + j, none⟩ = some v
  | 0, o, l, h, ρ, w, X, s => by cases h; exact ⟨rfl, fun j v hj => by simp [aam] at hj⟩
  | k + 1, o, l, h, ρ, w, X, s => by
    unfold rdN at h
    split at h
    · rename_i v h1
      split at h
      · rename_i l' h2
        cases h
        obtain ⟨hl, hc⟩ := aqO h2 s
        refine ⟨by simp [hl], fun j u hj => ?_⟩
        cases j with
        | zero =>
          simp only [aam, List.getElem?_cons_zero, Option.some.injEq] at hj
          rw [← hj]; exact aqP h1 s
        | succ j =>
          simp only [aam, List.getElem?_cons_succ] at hj
          rw [← hc j u hj]; congr 2; omega
      · cases h
    · cases h
theorem axj {o : Oper} {H : KT.H K} {T : TypeId} {x : Operand} {u v : V} {R : aaV} {nt : Nat} (ho : o.op = .load T x) (hx : evO R x = some u) (h : ldV K P H T u = some v) {ρ : Env} {a : Act} {w : World} {X : List aah} (r : Regs nt a (dR ρ R)) (s : Sat B w (dH K ρ H ++ X)) :
    (execOp a.eval o).run P w = .ok (.value (aay ρ v)) w := by
  obtain ⟨d, op, ty, ps, af, g⟩ := o
  simp only at ho
  subst ho
  have ex := (aaI (ρ := ρ) hx).eval r
  unfold ldV at h
  split at h
  · rename_i id o'
    have fin : (Instr.loadAt T (.pointer (some ⟨(ρ.p id).1, (ρ.p id).2 + o', none⟩))).run P w = .ok (aay ρ v) w → (execOp a.eval ⟨d, .load T x, ty, ps, af, g⟩).run P w = .ok (.value (aay ρ v)) w := fun h6 => by
      simp only [execOp, ex, aay]
      rw [aac h6]; rfl
    split at h
    · rename_i hT
      exact fin (ahV hT (aqP h s))
    · rename_i k hT
      simp only [Option.map_eq_some_iff] at h
      obtain ⟨l, hl, rfl⟩ := h
      obtain ⟨h1, h2⟩ := aqO hl s
      exact fin (aij hT (by rw [aaN]; simpa using h1) h2 rfl)
    · cases h
  · cases h
end
section
variable (K : KT)
def axA (P : Program) (R : aaV) (n : Nat) (Z H : KT.H K) (T : TypeId) (x : V) : Option (Nat × KT.H K × V) :=
  match x with
  | .ptr id o => match aek P T with
    | some none => match get (H ++ Z) id with
      | some (.elt j i sz) => match get (H ++ Z) j with
        | some (.rr c xss) => match Nat.beq sz 1 && Nat.beq o 0 && (Nat.ble (aeb (H ++ Z)) n && Nat.ble (aqx R) n) with
          | true => some (n + 1, (n, .ro c (atL [] xss i)) :: H, .sl n)
          | false => none
        | _ => none
      | _ => none
    | _ => none
  | _ => none
end
section
variable {K : KT} {P : Program} {nt n B : Nat} {W : World} {R : aaV} {Z H : KT.H K} {nx : Nat → KT.H K → V → Prop}
theorem amj {ρ : Env} (H H' : KT.H K) : dH K ρ (H ++ H') = dH K ρ H ++ dH K ρ H' := by simp [dH]
theorem awM {ρ : Env} {j c : Nat} {xss : List (List (K.T c))} (hg : get H j = some (.rr c xss)) {X : List aah} : Ent (dH K ρ H ++ X) (abN K ρ j (.rr c xss) :: (dH K ρ H ++ X)) := fun h0 t0 => by
  obtain ⟨j1, j2, a1, e1, ⟨m1, ps, m2⟩, mL⟩ := aaR (ρ := ρ) hg h0 t0
  obtain ⟨p, hp, hΦ⟩ := m2
  have hpp : ∀ b o x, p b o = some x → (∃ v, x = .look v) ∧ h0 b o = some x := fun b o x hx => ⟨(hp b o x hx).1, by rw [e1]; unfold aco; rw [(hp b o x hx).2]⟩
  refine ⟨p, h0, fun b o => ?_, ?_, ⟨m1, ps, p, fun b o x hx => ⟨(hpp b o x hx).1, hx⟩, hΦ⟩, t0⟩
  · cases hpb : p b o with
    | none => exact .inl rfl
    | some x =>
      obtain ⟨⟨v, rfl⟩, h2⟩ := hpp b o x hpb
      exact .inr (.inr ⟨v, rfl, h2⟩)
  · funext b o
    unfold aco
    cases hpb : p b o with
    | none => rfl
    | some x => exact (hpp b o x hpb).2
theorem arw {o : Oper} {T : TypeId} {x : Operand} {u v : V} {n' : Nat} {H' : KT.H K} (ho : o.op = .load T x) (hx : evO R x = some u) (h : axA K P R n Z H T u = some (n', H', v)) (hn : nx n' H' v) : adN K P nt B W o R n Z H nx := fun F ρ a w s => by
  obtain ⟨d, op, ty, ps, af, g⟩ := o
  simp only at ho
  subst ho
  have ex := (aaI (ρ := ρ) hx).eval s.regs
  unfold axA at h
  split at h
  · rename_i id o'
    split at h
    · rename_i hT
      split at h
      · rename_i j i sz hgi
        split at h
        · rename_i c xss hgj
          split at h
          · rename_i hB
            cases h
            simp only [Bool.and_eq_true] at hB
            obtain ⟨⟨b1, b2⟩, b3, b4⟩ := hB
            have hn1 : aeb (H ++ Z) ≤ n := Nat.le_of_ble_eq_true b3
            have hji := agT hgi
            have hjn : j < n := Nat.lt_of_lt_of_le (agT hgj).1 hn1
            have hin : id < n := Nat.lt_of_lt_of_le hji.1 hn1
            have s0 : Sat B w (dH K ρ (H ++ Z) ++ [F]) := by rw [amj, List.append_assoc]; exact s.sat
            have he := ao8 s0 hgi
            have s1 := s0.imp (awM (ρ := ρ) hgj)
            have s2 : Sat B w (dH K ρ [(id, .elt j i sz), (j, .rr c xss)] ++ (dH K ρ (H ++ Z) ++ [F])) := abu s1 fun k => he
            have hne : Nat.beq id j = false := by
              cases hq : Nat.beq id j with
              | false => rfl
              | true =>
                have := Nat.eq_of_beq_eq_true hq
                subst this
                rw [hgi] at hgj; cases hgj
            have hop : opn K n [(id, .elt j i sz), (j, .rr c xss)] id o' = some (true, (n, .ro c (atL [] xss i)) :: (j, .rr c xss) :: del [(id, .elt j i sz), (j, .rr c xss)] j, .sl n) := by
              have g1 : get [(id, (Ch.elt j i sz : Ch K.T K.M)), (j, .rr c xss)] id = some (.elt j i sz) := by unfold get; rw [Nat.beq_refl]
              have g2 : get [(id, (Ch.elt j i sz : Ch K.T K.M)), (j, .rr c xss)] j = some (.rr c xss) := by unfold get; rw [hne]; simp only [get]; rw [Nat.beq_refl]
              have g3 : Nat.ble (aeb [(id, (Ch.elt j i sz : Ch K.T K.M)), (j, .rr c xss)]) n = true := by
                refine Nat.ble_eq_true_of_le ?_
                refine amJ ⟨amJ ⟨hin, ?_⟩, amJ ⟨amJ ⟨hjn, Nat.zero_le _⟩, Nat.zero_le _⟩⟩
                exact hjn
              unfold opn
              simp only [g1, g2, b1, b2, g3, Bool.and_self]
            obtain ⟨ρ', ⟨ha, _⟩, s3, hc⟩ := aoR (X := fun ρ => dH K ρ (H ++ Z) ++ [F]) hop (fun _ ρ' ha => by rw [abC ha _ hn1]) s2
            have s4 : Sat B w (dS K ρ' Z ((n, .ro c (atL [] xss i)) :: H) F) := by
              have e : dS K ρ' Z ((n, .ro c (atL [] xss i)) :: H) F = abN K ρ' n (.ro c (atL [] xss i)) :: (dH K ρ' (H ++ Z) ++ [F]) := by
                rw [amj, List.append_assoc]; rfl
              rw [e]
              refine s3.imp fun k hk => ?_
              exact aa7 (fun q hq => afn (L := dH K ρ' ((j, .rr c xss) :: del [(id, .elt j i sz), (j, .rr c xss)] j)) hq) hk
            have : (execOp a.eval ⟨d, .load T x, ty, ps, af, g⟩).run P w = .ok (.value (aay ρ' (.sl n))) w := by
              simp only [execOp, ex, aay]
              rw [aac (ahV hT hc)]; rfl
            rw [this]
            exact ⟨⟨ρ', n + 1, (n, .ro c (atL [] xss i)) :: H, .sl n⟩, rfl, ⟨ha, Nat.le_succ _, (abq ha _ (Nat.le_of_ble_eq_true b4)).symm, hn⟩, s.below, s.lo, s4⟩
          · cases h
        · cases h
      · cases h
    · cases h
  · cases h
end
def afz : Nat := 1000000000
def mI (name : String) : Option Nat := if name = "Step" then some 0 else if name = "Result" then some 1 else if name = "Copy" then some 2 else none
def mN : Nat → String
  | 0 => "Step"
  | 1 => "Result"
  | _ => "Copy"
theorem az3 {name : String} {i : Nat} (h : mI name = some i) : mN i = name := by
  unfold mI at h
  split at h
  · cases h; rename_i e; exact e.symm
  · split at h
    · cases h; rename_i e; exact e.symm
    · split at h
      · cases h; rename_i e; exact e.symm
      · cases h
def aeD (P : Program) (fid : FuncId) (args : Array Value) (w : World) (Q : Ending → World → Prop) : Prop :=
  match Nat.blt fid afz with
  | true => Calls P fid args w Q
  | false => ∃ (T : TypeId) (u : Value) (rest : Array Value) (f : FuncId), args = #[.iface T u] ++ rest ∧ (∀ w', (callMethod (.iface T u) (mN (fid - afz)) rest).run P w' = .ok (.enter f (#[u] ++ rest)) w') ∧ Calls P f (#[u] ++ rest) w Q
theorem ac9 {P : Program} {fid : FuncId} {args : Array Value} {w : World} {Q : Ending → World → Prop} (h : Nat.blt fid afz = true) : aeD P fid args w Q = Calls P fid args w Q := by
  unfold aeD; rw [h]
theorem amp {P : Program} {i : Nat} {args : Array Value} {w : World} {Q : Ending → World → Prop} : aeD P (afz + i) args w Q = ∃ (T : TypeId) (u : Value) (rest : Array Value) (f : FuncId), args = #[.iface T u] ++ rest ∧ (∀ w', (callMethod (.iface T u) (mN i) rest).run P w' = .ok (.enter f (#[u] ++ rest)) w') ∧ Calls P f (#[u] ++ rest) w Q := by
  have h : Nat.blt (afz + i) afz = false := by
    cases hb : Nat.blt (afz + i) afz with
    | false => rfl
    | true => have := Nat.le_of_ble_eq_true hb; omega
  unfold aeD
  rw [h, show afz + i - afz = i by omega]
theorem aeD.mono {P : Program} {fid : FuncId} {args : Array Value} {w : World} {Q Q' : Ending → World → Prop} (h : aeD P fid args w Q) (hq : ∀ e w', Q e w' → Q' e w') : aeD P fid args w Q' := by
  unfold aeD at h ⊢
  split at h
  · exact Calls.mono h hq
  · obtain ⟨T, u, rest, f, e, h1, h2⟩ := h
    exact ⟨T, u, rest, f, e, h1, Calls.mono h2 hq⟩
def axh (P : Program) (T : TypeId) (name : String) : Option FuncId :=
  match P.info? T with
  | some ti => match ti.methods.find? (fun m => m.name == name) with
    | some m => match m.path.toList with
      | [] => match m.func with
        | some (f, true) => match P.underlying T with
          | some (.pointer _) => some f
          | _ => none
        | _ => none
      | _ => none
    | none => none
  | none => none
theorem auU {P : Program} {T : TypeId} {name : String} {f : FuncId} (h : axh P T name = some f) (hc : arO P f = true) (u : Value) (vs : Array Value) (w : World) :
    (callMethod (.iface T u) name vs).run P w = .ok (.enter f (#[u] ++ vs)) w := by
  unfold axh at h
  split at h
  · rename_i ti hti
    split at h
    · rename_i m hm
      split at h
      · rename_i hp
        split at h
        · rename_i g hg
          split at h
          · rename_i el hu
            cases h
            have h1 : (typeInfo T).run P w = .ok ti w := by
              unfold typeInfo
              rw [aac (a := P) (w' := w) rfl, hti]; rfl
            have h2 : (underlying T).run P w = .ok (.pointer el) w := by
              unfold underlying
              rw [aac (a := P) (w' := w) rfl, hu]; rfl
            have h3 : ∀ s, (receiverAt T (.val u) true s).run P w = .ok u w := fun s => by
              unfold receiverAt
              rw [aac h2]; rfl
            have h4 : ∀ k, (method (k + 1) T u name).run P w = .ok (f, u) w := fun k => by
              unfold method
              rw [aac h1]
              simp only [hm, hp]
              rw [aac (a := (T, Place.val u)) (w' := w) rfl]
              simp only [hg]
              rw [aac (h3 _)]; rfl
            unfold callMethod
            rw [aac (a := P) (w' := w) rfl]
            rw [show P.types.size + Made.depth = (P.types.size + Made.depth - 1) + 1 from (Nat.succ_pred_eq_of_pos (Nat.lt_of_lt_of_le (by decide) (Nat.le_add_left _ _))).symm]
            rw [aac (h4 _)]
            exact arn hc _
          · cases h
        · cases h
      · cases h
    · cases h
  · cases h
theorem aoU {P : Program} {a : Act} {w : World} {x : Operand} {name : String} {f : FuncId} {xs : Array Operand} {ts : Array TypeId} {vs : List Value} {T : TypeId} {u : Value} {d : Option Tmp} {ty : TypeId} {ps : String} {af : Array Edge} {g : Option (Nat × Bool)} (hx : a.eval x = .iface T u) (hxs : xs.toList.map a.eval = vs) (hc : (callMethod (.iface T u) name vs.toArray).run P w = .ok (.enter f (#[u] ++ vs.toArray)) w) :
    (execOp a.eval ⟨d, .call ⟨.invoke x name, xs, ts⟩, ty, ps, af, g⟩).run P w = .ok (.enter f (#[u] ++ vs.toArray)) w := by
  have e : xs.map a.eval = vs.toArray := by apply Array.ext'; rw [Array.toList_map, hxs]
  simp only [execOp, resolve, e, hx]
  rw [aac (a := ({ target := .fn (.method name) #[], args := #[.iface T u] ++ vs.toArray } : Deferred)) (w' := w) rfl]
  simp only [invoke]
  have e0 : (#[Value.iface T u] ++ vs.toArray)[0]? = some (.iface T u) := by simp
  have e1 : (#[Value.iface T u] ++ vs.toArray).extract 1 (#[Value.iface T u] ++ vs.toArray).size = vs.toArray := by apply Array.ext'; simp
  rw [e0, e1]
  exact hc
def ao3 {α : Type} (j : Int) (f : Nat → Option α) : Nat → Option α
  | 0 => none
  | m + 1 => if j = ((m : Nat) : Int) then f m else ao3 j f m
theorem aio {α : Type} {j : Int} {f : Nat → Option α} {out : α} : ∀ {m : Nat}, ao3 j f m = some out → ∃ i, i < m ∧ j = ((i : Nat) : Int) ∧ f i = some out
  | 0, h => by cases h
  | m + 1, h => by
    unfold ao3 at h
    split at h
    · rename_i e; exact ⟨m, Nat.lt_succ_self m, e, h⟩
    · obtain ⟨i, h1, h2⟩ := aio h
      exact ⟨i, Nat.lt_succ_of_lt h1, h2⟩
def ax1 (P : Program) (R : aaV) (T : TypeId) (x y : Operand) : Option ((Nat × Nat) × (Nat × Int × Nat) × IntKind) :=
  match evO R x with
  | some (.ptr id o) => match P.underlying T with
    | some (.array len elem) => match evO R y with
      | some u => match ai2 u with
        | some (k, j, _) => match P.info? elem with
          | some inf => some ((id, o), (len, j, inf.size), k)
          | none => none
        | none => none
      | none => none
    | _ => none
  | _ => none
theorem ati {P : Program} {ρ : Env} {R : aaV} {T : TypeId} {x y : Operand} {id o len sz : Nat} {j : Int} {kk : IntKind} (h : ax1 P R T x y = some ((id, o), (len, j, sz), kk)) {nt : Nat} {a : Act} (r : Regs nt a (dR ρ R)) {i : Nat} (hi : i < len) (hj : j = ((i : Nat) : Int))
    {d : Option Tmp} {ty : TypeId} {ps : String} {af : Array Edge} {g : Option (Nat × Bool)} (w : World) : (execOp a.eval ⟨d, .indexAddr T x y, ty, ps, af, g⟩).run P w = .ok (.value (aay ρ (.ptr id (o + i * sz)))) w := by
  unfold ax1 at h
  split at h
  · rename_i id' o' hx
    have ex := (aaI (ρ := ρ) hx).eval r
    split at h
    · rename_i len' elem hu
      split at h
      · rename_i u hy
        split at h
        · rename_i k j' l hi'
          have ey := (abv (ρ := ρ) hy hi').eval r
          split at h
          · rename_i inf hinf
            cases h
            subst hj
            have h1 : (0 : Int) ≤ ((i : Nat) : Int) ∧ ((i : Nat) : Int) < (len : Int) := by omega
            have h2 : (Instr.indexAt T (.pointer (some ⟨(ρ.p id).1, (ρ.p id).2 + o, none⟩)) (.int kk ((i : Nat) : Int))).run P w = .ok (.pointer (some ⟨(ρ.p id).1, (ρ.p id).2 + (o + i * inf.size), none⟩)) w := by
              simp [Instr.indexAt, asIntOf, abF hu, sizeOf, abA hinf, h1, hi, Instr.sureAddr, acC, Nat.add_assoc]
            simp only [execOp, ex, ey, aay]
            rw [aac h2]; rfl
          · cases h
        · cases h
      · cases h
    · cases h
  · cases h
def aAl (P : Program) (R : aaV) (T : TypeId) (x y : Operand) : Option ((Nat × Nat) × (Nat × Int × Nat) × Int) :=
  match evO R x with
  | some (.vs id o k c) => match ae2 P T with
    | some sz => match evO R y with
      | some u => match ai2 u with
        | some (_, j, _) => some ((id, o), (c, j, sz), k)
        | none => none
      | none => none
    | none => none
  | _ => none
theorem axB {P : Program} {ρ : Env} {R : aaV} {T : TypeId} {x y : Operand} {id o len sz : Nat} {j kb : Int} (h : aAl P R T x y = some ((id, o), (len, j, sz), kb)) (hb : j < kb) {nt : Nat} {a : Act} (r : Regs nt a (dR ρ R)) {i : Nat} (hj : j = ((i : Nat) : Int))
    {d : Option Tmp} {ty : TypeId} {ps : String} {af : Array Edge} {g : Option (Nat × Bool)} (w : World) : (execOp a.eval ⟨d, .indexAddr T x y, ty, ps, af, g⟩).run P w = .ok (.value (aay ρ (.ptr id (o + i * sz)))) w := by
  unfold aAl at h
  split at h
  · rename_i id' o' k' c' hx
    have ex := aaI (ρ := ρ) hx
    split at h
    · rename_i sz' hsz
      split at h
      · rename_i u hy
        split at h
        · rename_i kk j' l hi
          have ey := abv (ρ := ρ) hy hi
          cases h
          subst hj
          have := (agZ (P := P) (n := nt) (d := d) (ty := ty) (ps := ps) (af := af) (g := g) (i := i) (o' := (ρ.p id).2 + (o + i * sz)) ex ey rfl (by omega) hsz (by omega)) a w r
          simpa only [aay] using this
        · cases h
      · cases h
    · cases h
  · cases h
def azw (R : aaV) (y : Operand) (k : IntKind) (i : Nat) : aaV := match y with
  | .tmp t => match get R t with
    | some (.i _ _) => (t, .l k ((i : Nat) : Int)) :: del R t
    | _ => R
  | _ => R
theorem anR {α : Type} {t : Nat} {v : α} {C : List (Nat × α)} : ∀ {R : List (Nat × α)}, get R t = some v → get (R ++ C) t = some v
  | [], h => by cases h
  | (t', v') :: R, h => by
    rw [List.cons_append]
    unfold get at h ⊢
    cases hb : Nat.beq t' t with
    | true => rw [hb] at h; exact h
    | false => rw [hb] at h; exact anR h
theorem au7 {P : Program} {ρ : Env} {R : aaV} {T : TypeId} {x y : Operand} {q : Nat × Nat} {len sz : Nat} {j : Int} {kk : IntKind} (h : ax1 P R T x y = some (q, (len, j, sz), kk)) : ∃ u, evO R y = some u ∧ aay ρ u = .int kk j := by
  unfold ax1 at h
  split at h
  · split at h
    · split at h
      · rename_i u hy
        split at h
        · rename_i hi
          split at h
          · cases h; exact ⟨u, hy, ail hi⟩
          · cases h
        · cases h
      · cases h
    · cases h
  · cases h
theorem aso {ρ : Env} {R C : aaV} {y : Operand} {k : IntKind} {i nt : Nat} {u : V} {a : Act} (hu : evO (R ++ C) y = some u) (hd : aay ρ u = .int k ((i : Nat) : Int)) (r : Regs nt a (dR ρ (R ++ C))) : Regs nt a (dR ρ (azw R y k i ++ C)) := by
  unfold azw
  split
  · rename_i t
    split
    · rename_i k' j' hg
      have hg' : get (R ++ C) t = some (.i k' j') := anR hg
      have e : u = .i k' j' := by
        have : get (R ++ C) t = some u := hu
        rw [hg'] at this; exact (Option.some.inj this).symm
      refine ⟨r.size, r.defers, fun p hp => ?_⟩
      obtain ⟨q, hq, rfl⟩ := List.mem_map.1 hp
      rcases List.mem_append.1 hq with h1 | h1
      · rcases List.mem_cons.1 h1 with e1 | e1
        · subst e1
          have := r.has _ (aiG (ρ := ρ) hg')
          rw [← e, hd] at this
          exact this
        · exact r.has _ (List.mem_map.2 ⟨q, List.mem_append_left _ (ag8 e1).1, rfl⟩)
      · exact r.has _ (List.mem_map.2 ⟨q, List.mem_append_right _ h1, rfl⟩)
    · exact r
  · exact r
section
variable (K : KT)
def azX (R : aaV) (H : KT.H K) : Op → Option (KT.H K)
  | .indexAddr _ x _ => match evO R x with
    | some (.sl id) => match get H id with
      | some (.gap c _ _ _) => match (K.vw c (K.df c)).any (aAH K) with
        | true => none
        | false => apa K H id
      | _ => none
    | _ => none
  | _ => none
def azA (P : Program) (R : aaV) (n : Nat) (Z H : KT.H K) (op : Op) : Option (List Gd × Nat × KT.H K × V) := match azX K R H op with
  | some H1 => evX K P R n Z H1 op
  | none => evX K P R n Z H op
end
section
variable {K : KT} {P : Program} {B : Nat} {w : World} {ρ : Env}
theorem asu {R : aaV} {H H1 : KT.H K} {op : Op} {X : List aah} (h : azX K R H op = some H1) {w : World} (s : Sat B w (dH K ρ H ++ X)) : Sat B w (dH K ρ H1 ++ X) := by
  unfold azX at h
  split at h
  · split at h
    · split at h
      · split at h
        · cases h
        · exact aml h s
      · cases h
    · cases h
  · cases h
theorem atf {R : aaV} {n n' nt : Nat} {Z H H' : KT.H K} {F : aah} {o : Oper} {gs : List Gd} {v : V} (h : azA K P R n Z H o.op = some (gs, n', H', v)) (hg : ∀ g ∈ gs, g.P) (s : Sat B w (dS K ρ Z H F)) {a : Act} (r : Regs nt a (dR ρ R)) :
    ∃ ρ', (aaz n ρ ρ' ∧ n ≤ n' ∧ dR ρ' R = dR ρ R) ∧ (ρ' = ρ ∨ aeb Z ≤ n) ∧ (∀ w', Sat B w' (dS K ρ Z H F) → Sat B w' (dS K ρ' Z H' F)) ∧ ∀ w', (execOp a.eval o).run P w' = .ok (.value (aay ρ' v)) w' := by
  unfold azA at h
  split at h
  · rename_i H1 h1
    obtain ⟨ρ', q1, q2, q3, q4⟩ := avT h hg (asu h1 s) r
    exact ⟨ρ', q1, q2, fun w' s' => q3 w' (asu h1 s'), q4⟩
  · exact avT h hg s r
end
abbrev ai1 (K : KT) := (α : Type) → FuncId → List V → Nat → KT.H K → KT.H K → (Nat → KT.H K → V → Option α) → Option α
def aiJ (K : KT) (P : Program) (B : Nat) (W : World) (call : ai1 K) : Prop :=
  ∀ (α : Type) fid vs n Z H (k : Nat → KT.H K → V → Option α) out, call α fid vs n Z H k = some out → agS vs ≤ n → aeb Z ≤ n → aeb H ≤ n → ∀ F ρ w, Cls B W (dS K ρ Z H F) w →
    aeD P fid (aam ρ vs).toArray w fun e w' => ∃ x : Nx K, (aaz n ρ x.ρ ∧ n ≤ x.n ∧ k x.n x.H x.v = some out) ∧ e = .returned (aay x.ρ x.v) ∧ Cls B W (dS K x.ρ Z x.H F) w'
section
variable (K : KT) (P : Program) (call : ai1 K) {α : Type}
def stp (o : Oper) (R : aaV) (n : Nat) (Z H : KT.H K) (k : Nat → KT.H K → V → Option α) : Option α :=
  match azA K P R n Z H o.op with
  | some (gs, n', H', v) => gds gs (k n' H' v)
  | none => match o.op with
    | .load T x => match evO R x with
      | some u => match ldV K P (H ++ Z) T u with
        | some v => k n H v
        | none => match asM K H u with
          | some H1 => match azC K P R n Z H1 T u with
            | some (n', H', v) => k n' H' v
            | none => none
          | none => match azC K P R n Z H T u with
            | some (n', H', v) => k n' H' v
            | none => match axA K P R n Z H T u with
              | some (n', H', v) => k n' H' v
              | none => none
      | none => none
    | .store T x y => match evO R x with
      | some u => match evO R y with
        | some v => match azB K P H T u v with
          | some H' => k n H' (.c undef)
          | none => match axw K P H T u v with
            | some H' => k n H' (.c undef)
            | none => match asM K H u with
              | some H1 => match azB K P H1 T u v with
                | some H' => k n H' (.c undef)
                | none => none
              | none => none
        | none => none
      | none => none
    | .alloc T => match aps P T with
      | some vs => match axW K R n Z H vs with
        | some (n', H', v) => k n' H' v
        | none => none
      | none => none
    | .indexAddr T x y => match ax1 P R T x y with
      | some (q, (len, j, sz), _) => ao3 j (fun i => k n H (.ptr q.1 (q.2 + i * sz))) len
      | none => match aAl P R T x y with
        | some (q, (len, j, sz), kb) => gds [⟨j < kb, inferInstance⟩] (ao3 j (fun i => k n H (.ptr q.1 (q.2 + i * sz))) len)
        | none => match ax0 K P R (H ++ Z) T x y with
          | some (q, (len, j, sz), _) => ao3 j (fun i => k n H (.ptr q.1 (q.2 + i * sz))) len
          | none => none
    | .box _ x => match evO R x with
      | some u => match (aaA u).all (scV H) with
        | true => match axW K R n Z H (aaA u) with
          | some (n', H', v) => k n' H' v
          | none => none
        | false => none
      | none => none
    | .makeSlice T x y => match evO R x with
      | some u => match evO R y with
        | some v => match aAk K P R n Z H T u v with
          | some (gs, n', H', r) => gds gs (k n' H' r)
          | none => none
        | none => none
      | none => none
    | .buildSlice T m parts => match aAn K P R n Z H T m parts.toList with
     | some (n', H', v) => k n' H' v
     | none => match aAo K P R n Z H T m parts.toList with
      | some (n', H', v) => k n' H' v
      | none => match aAq K P R n Z H T m parts.toList with
        | some (n', H', v) => k n' H' v
        | none => none
    | .call c => match c.callee with
      | .builtin .append => match c.args.toList with
        | [x, y] => match c.argTypes.toList with
          | [T, T'] => match evO R x with
            | some u => match evO R y with
              | some v => match aAv K P R n Z H T T' u v with
                | some (gs, n', H', r) => gds gs (k n' H' r)
                | none => match aAu K P R n Z H T T' u v with
                  | some (gs, n', H', r) => gds gs (k n' H' r)
                  | none => match aAt K P R n Z H T T' u v with
                    | some (gs, n', H', r) => gds gs (k n' H' r)
                    | none => match aAs K P R n Z H T T' u v with
                      | some (n', H', r) => k n' H' r
                      | none => none
              | none => none
            | none => none
          | _ => none
        | _ => none
      | .value f => match evO R f with
        | some (.fn fid caps) => match axy R c.args.toList with
          | some vs => match arO P fid && abB K R n Z H && Nat.ble (agS (vs ++ caps)) n && Nat.blt fid afz with
            | true => call α fid (vs ++ caps) n Z H k
            | false => none
          | none => none
        | _ => none
      | .invoke x name => match mI name with
        | some i => match evO R x with
          | some (.mc id) => match axy R c.args.toList with
            | some vs => match abB K R n Z H && Nat.ble (agS (.mc id :: vs)) n with
              | true => call α (afz + i) (.mc id :: vs) n Z H k
              | false => none
            | none => none
          | some (.ifc T u) => match axh P T name with
            | some f => match axy R c.args.toList with
              | some vs => match arO P f && abB K R n Z H && Nat.ble (agS (u :: vs)) n && Nat.blt f afz with
                | true => call α f (u :: vs) n Z H k
                | false => none
              | none => none
            | none => none
          | _ => none
        | none => none
      | _ => none
    | _ => none
end
section
variable {K : KT} {P : Program} {call : ai1 K} {α : Type} {nt n B : Nat} {W : World} {R : aaV} {Z H : KT.H K}
theorem azj {ρ : Env} (H H' : KT.H K) : dH K ρ (H ++ H') = dH K ρ H ++ dH K ρ H' := by simp [dH]
theorem aqA {o : Oper} {H1 : KT.H K} {nx : Nat → KT.H K → V → Prop} (hT : ∀ (ρ : Env) (w : World) (X : List aah), Sat B w (dH K ρ H ++ X) → Sat B w (dH K ρ H1 ++ X)) (h : adN K P nt B W o R n Z H1 nx) : adN K P nt B W o R n Z H nx :=
  fun F ρ a w s => h F ρ a w ⟨s.regs, s.below, s.lo, hT ρ w _ s.sat⟩
theorem avz (hc : aiJ K P B W call) {o : Oper} {k : Nat → KT.H K → V → Option α} {out : α} (h : stp K P call o R n Z H k = some out) : adN K P nt B W o R n Z H (fun n' H' v => k n' H' v = some out) := by
  unfold stp at h
  split at h
  · rename_i gs n' H' v he
    obtain ⟨h1, h2⟩ := ajP h
    intro F ρ a w s
    obtain ⟨ρ', ⟨q1, q2, q3⟩, _, q4, q5⟩ := atf he h1 s.sat s.regs
    rw [q5 w]
    exact ⟨⟨ρ', n', H', v⟩, rfl, ⟨q1, q2, q3, h2⟩, s.below, s.lo, q4 w s.sat⟩
  · split at h
    · rename_i T x ho
      split at h
      · rename_i u hx
        split at h
        · rename_i v he
          intro F ρ a w s
          have s1 : Sat B w (dH K ρ (H ++ Z) ++ [F]) := by rw [azj, List.append_assoc]; exact s.sat
          rw [axj ho hx he s.regs s1]
          exact ⟨⟨ρ, n, H, v⟩, rfl, ⟨aaz.refl _ _, Nat.le_refl _, rfl, h⟩, s.cls⟩
        · split at h
          · rename_i hop
            split at h
            · rename_i he
              exact aqA (fun _ _ _ => anN hop) (aon ho hx he h)
            · cases h
          · split at h
            · rename_i he
              exact aon ho hx he h
            · split at h
              · rename_i he
                exact arw ho hx he h
              · cases h
      · cases h
    · rename_i T x y ho
      split at h
      · rename_i hx
        split at h
        · rename_i hy
          split at h
          · rename_i he; exact amP ho hx hy he h
          · split at h
            · rename_i he; exact apx ho hx hy he h
            · split at h
              · rename_i hop
                split at h
                · rename_i he
                  exact aqA (fun _ _ _ => anN hop) (amP ho hx hy he h)
                · cases h
              · cases h
        · cases h
      · cases h
    · rename_i T ho
      split at h
      · rename_i hz
        split at h
        · rename_i he; exact arx ho hz he h
        · cases h
      · cases h
    · rename_i T x y ho
      split at h
      · rename_i q len j sz kk he
        obtain ⟨i, h1, h2, h3⟩ := aio h
        obtain ⟨id, o'⟩ := q
        intro F ρ a w s
        obtain ⟨d, op, ty, ps, af, g⟩ := o
        simp only at ho
        subst ho
        rw [ati he s.regs h1 h2 w]
        exact ⟨⟨ρ, n, H, _⟩, rfl, ⟨aaz.refl _ _, Nat.le_refl _, rfl, h3⟩, s.cls⟩
      · split at h
        · rename_i q len j sz kb he
          obtain ⟨hg, h⟩ := ajP h
          have hb : j < kb := hg _ (List.mem_singleton.2 rfl)
          obtain ⟨i, h1, h2, h3⟩ := aio h
          obtain ⟨id, o'⟩ := q
          intro F ρ a w s
          obtain ⟨d, op, ty, ps, af, g⟩ := o
          simp only at ho
          subst ho
          rw [axB he hb s.regs h2 w]
          exact ⟨⟨ρ, n, H, _⟩, rfl, ⟨aaz.refl _ _, Nat.le_refl _, rfl, h3⟩, s.cls⟩
        · split at h
          · rename_i q len j sz kk he
            obtain ⟨i, h1, h2, h3⟩ := aio h
            obtain ⟨id, o'⟩ := q
            intro F ρ a w s
            obtain ⟨d, op, ty, ps, af, g⟩ := o
            simp only at ho
            subst ho
            rw [ath he (ac0 s.sat) s.regs h1 h2 w]
            exact ⟨⟨ρ, n, H, _⟩, rfl, ⟨aaz.refl _ _, Nat.le_refl _, rfl, h3⟩, s.cls⟩
          · cases h
    · rename_i T x ho
      split at h
      · rename_i hx
        split at h
        · rename_i hs
          split at h
          · rename_i he; exact aul ho hx hs he h
          · cases h
        · cases h
      · cases h
    · rename_i T x y ho
      split at h
      · rename_i hx
        split at h
        · rename_i hy
          split at h
          · rename_i he
            obtain ⟨h1, h2⟩ := ajP h
            exact awe ho hx hy he h1 h2
          · cases h
        · cases h
      · cases h
    · rename_i T m parts ho
      split at h
      · rename_i he; exact awm ho he h
      · split at h
        · rename_i he; exact awn ho he h
        · split at h
          · rename_i he; exact awo ho he h
          · cases h
    · rename_i c ho
      split at h
      · rename_i hf
        split at h
        · rename_i x y hxs
          split at h
          · rename_i T T' hts
            split at h
            · rename_i hx
              split at h
              · rename_i hy
                split at h
                · rename_i he
                  obtain ⟨h1, h2⟩ := ajP h
                  obtain ⟨callee, xs, ts⟩ := c
                  simp only at hf hxs hts
                  subst hf
                  obtain rfl : xs = #[x, y] := by apply Array.ext'; simpa using hxs
                  obtain rfl : ts = #[T, T'] := by apply Array.ext'; simpa using hts
                  exact aws ho hx hy he h1 h2
                · split at h
                  · rename_i he
                    obtain ⟨h1, h2⟩ := ajP h
                    obtain ⟨callee, xs, ts⟩ := c
                    simp only at hf hxs hts
                    subst hf
                    obtain rfl : xs = #[x, y] := by apply Array.ext'; simpa using hxs
                    obtain rfl : ts = #[T, T'] := by apply Array.ext'; simpa using hts
                    exact awr ho hx hy he h1 h2
                  · split at h
                    · rename_i he
                      obtain ⟨h1, h2⟩ := ajP h
                      obtain ⟨callee, xs, ts⟩ := c
                      simp only at hf hxs hts
                      subst hf
                      obtain rfl : xs = #[x, y] := by apply Array.ext'; simpa using hxs
                      obtain rfl : ts = #[T, T'] := by apply Array.ext'; simpa using hts
                      exact awq K.nc ho hx hy he h1 h2
                    · split at h
                      · rename_i he
                        obtain ⟨callee, xs, ts⟩ := c
                        simp only at hf hxs hts
                        subst hf
                        obtain rfl : xs = #[x, y] := by apply Array.ext'; simpa using hxs
                        obtain rfl : ts = #[T, T'] := by apply Array.ext'; simpa using hts
                        exact awp ho hx hy he h
                      · cases h
              · cases h
            · cases h
          · cases h
        · cases h
      · rename_i f hf
        split at h
        · rename_i fid caps hfn
          split at h
          · rename_i vs hvs
            split at h
            · rename_i hB
              intro F ρ a w s
              obtain ⟨d, op, ty, ps, af, g⟩ := o
              simp only at ho
              subst ho
              obtain ⟨callee, xs, ts⟩ := c
              simp only at hf hvs
              subst hf
              simp only [Bool.and_eq_true, abB] at hB
              obtain ⟨⟨⟨b1, ⟨⟨b2, b3⟩, b4⟩⟩, b5⟩, b6⟩ := hB
              have ef := (aaI (ρ := ρ) hfn).eval s.regs
              have exs := (amd (ρ := ρ) hvs).eval s.regs
              simp only [aay] at ef
              rw [axc (fst := #[]) (cap := (aam ρ caps).toArray) ef b1 exs]
              have e : (#[] ++ (aam ρ vs).toArray ++ (aam ρ caps).toArray : Array Value) = (aam ρ (vs ++ caps)).toArray := by rw [ami]; simp
              rw [e]
              show Calls P fid _ w _
              have hcm := hc _ _ _ _ _ _ _ _ h (Nat.le_of_ble_eq_true b5) (Nat.le_of_ble_eq_true b3) (Nat.le_of_ble_eq_true b4) F ρ w s.cls
              rw [ac9 b6] at hcm
              refine hcm.mono ?_
              rintro e w' ⟨x, ⟨h1, h2, h3⟩, h4, h5⟩
              exact ⟨x, h4, ⟨h1, h2, (abq h1 R (Nat.le_of_ble_eq_true b2)).symm, h3⟩, h5⟩
            · cases h
          · cases h
        · cases h
      · rename_i x name hf
        split at h
        · rename_i i hmi
          split at h
          · rename_i id hx
            split at h
            · rename_i vs hvs
              split at h
              · rename_i hB
                intro F ρ a w s
                obtain ⟨d, op, ty, ps, af, g⟩ := o
                simp only at ho
                subst ho
                obtain ⟨callee, xs, ts⟩ := c
                simp only at hf hvs
                subst hf
                simp only [Bool.and_eq_true, abB] at hB
                obtain ⟨⟨⟨b2, b3⟩, b4⟩, b5⟩ := hB
                have ex := (aaI (ρ := ρ) hx).eval s.regs
                have exs := (amd (ρ := ρ) hvs).eval s.regs
                have hcm := hc _ _ _ _ _ _ _ _ h (Nat.le_of_ble_eq_true b5) (Nat.le_of_ble_eq_true b3) (Nat.le_of_ble_eq_true b4) F ρ w s.cls
                rw [amp] at hcm
                obtain ⟨T, u, rest, f, e, hrun, hcall⟩ := hcm
                have e' : aay ρ (.mc id) :: aam ρ vs = .iface T u :: rest.toList := by
                  have := congrArg Array.toList e
                  simpa [aam] using this
                simp only [List.cons.injEq] at e'
                obtain ⟨e1, e2⟩ := e'
                have e3 : rest = (aam ρ vs).toArray := by apply Array.ext'; rw [← e2]
                subst e3
                rw [e1] at ex
                rw [aoU ex exs (by rw [← az3 hmi]; exact hrun w)]
                show Calls P f _ w _
                refine hcall.mono ?_
                rintro e w' ⟨x, ⟨h1, h2, h3⟩, h4, h5⟩
                exact ⟨x, h4, ⟨h1, h2, (abq h1 R (Nat.le_of_ble_eq_true b2)).symm, h3⟩, h5⟩
              · cases h
            · cases h
          · rename_i T u hx
            split at h
            · rename_i f hml
              split at h
              · rename_i vs hvs
                split at h
                · rename_i hB
                  intro F ρ a w s
                  obtain ⟨d, op, ty, ps, af, g⟩ := o
                  simp only at ho
                  subst ho
                  obtain ⟨callee, xs, ts⟩ := c
                  simp only at hf hvs
                  subst hf
                  simp only [Bool.and_eq_true, abB] at hB
                  obtain ⟨⟨⟨b1, ⟨⟨b2, b3⟩, b4⟩⟩, b5⟩, b6⟩ := hB
                  have ex := (aaI (ρ := ρ) hx).eval s.regs
                  have exs := (amd (ρ := ρ) hvs).eval s.regs
                  simp only [aay] at ex
                  rw [aoU ex exs (auU hml b1 _ _ _)]
                  have e : (#[aay ρ u] ++ (aam ρ vs).toArray : Array Value) = (aam ρ (u :: vs)).toArray := by simp [aam]
                  rw [e]
                  show Calls P f _ w _
                  have hcm := hc _ _ _ _ _ _ _ _ h (Nat.le_of_ble_eq_true b5) (Nat.le_of_ble_eq_true b3) (Nat.le_of_ble_eq_true b4) F ρ w s.cls
                  rw [ac9 b6] at hcm
                  refine hcm.mono ?_
                  rintro e w' ⟨x, ⟨h1, h2, h3⟩, h4, h5⟩
                  exact ⟨x, h4, ⟨h1, h2, (abq h1 R (Nat.le_of_ble_eq_true b2)).symm, h3⟩, h5⟩
                · cases h
              · cases h
            · cases h
          · cases h
        · cases h
      · cases h
    · cases h
end
inductive Gs where
  | yes
  | no
  | p (d : Nat) (c : Bool) (P : Prop) (dec : Decidable P)
  | b (d : Nat) (c : Bool) (x : Bool)
def aAA : Bool → Bool → Bool
  | true, true => true
  | false, false => true
  | _, _ => false
theorem aql {x y : Bool} : (x == y) = aAA x y := by cases x <;> cases y <;> rfl
def az8 : Value → Bool
  | .tuple cs => Nat.beq cs.size 0
  | _ => false
theorem axn {v : Value} (h : az8 v = true) : v = undef := by
  unfold az8 at h
  split at h
  · rename_i cs
    have := Nat.eq_of_beq_eq_true h
    obtain rfl := Array.eq_empty_of_size_eq_zero this
    rfl
  · cases h
def gst (ops : Array Oper) (R : aaV) : Option (Nat × Bool) → Option Gs
  | none => some .yes
  | some (j, c) => match ops[j]? with
    | some oj => match oj.dst with
      | some d => match get R d with
        | some (.t x) => match aAA x c with
          | true => some .yes
          | false => some .no
        | some (.p P dec) => some (.p d c P dec)
        | some (.b x) => some (.b d c x)
        | some (.c v) => match az8 v with
          | true => some .no
          | false => none
        | _ => none
      | none => none
    | none => none
theorem axp {ops : Array Oper} {R : aaV} {ρ : Env} {g : Option (Nat × Bool)} (h : gst ops R g = some .yes) : aia ops (dR ρ R) g true := by
  unfold gst at h
  split at h
  · exact arv
  · split at h
    · rename_i hj
      split at h
      · rename_i hd
        split at h
        · rename_i x hg
          split at h
          · rename_i hb
            exact aj2 hj hd (aiG hg) (by rw [aql]; exact hb)
          · cases h
        · cases h
        · cases h
        · split at h <;> cases h
        · cases h
      · cases h
    · cases h
theorem azb {ops : Array Oper} {R : aaV} {ρ : Env} {g : Option (Nat × Bool)} (h : gst ops R g = some .no) : aia ops (dR ρ R) g false := by
  unfold gst at h
  split at h
  · cases h
  · split at h
    · rename_i hj
      split at h
      · rename_i hd
        split at h
        · rename_i x hg
          split at h
          · cases h
          · rename_i hb
            exact aj2 hj hd (aiG hg) (by rw [aql]; exact hb)
        · cases h
        · cases h
        · rename_i hg
          split at h
          · rename_i hu
            refine apt hj hd ?_
            have := aiG (ρ := ρ) hg
            simp only [aay] at this
            rw [axn hu] at this
            exact this
          · cases h
        · cases h
      · cases h
    · cases h
def at8 (R : aaV) (d : Nat) (x : Bool) : aaV := (d, .t x) :: del R d
theorem apA {ρ : Env} {R : aaV} {d nt : Nat} {v : V} {x : Bool} {a : Act} (hg : get R d = some v) (hv : aay ρ v = .bool x) (r : Regs nt a (dR ρ R)) : Regs nt a (dR ρ (at8 R d x)) :=
  ⟨r.size, r.defers, fun p hp => by
    obtain ⟨q, hq, rfl⟩ := List.mem_map.1 hp
    rcases List.mem_cons.1 hq with e | e
    · subst e
      have := r.has _ (aiG (ρ := ρ) hg)
      rw [hv] at this
      exact this
    · exact r.has _ (List.mem_map.2 ⟨q, (ag8 e).1, rfl⟩)⟩
theorem aAd {ops : Array Oper} {R : aaV} {g : Option (Nat × Bool)} {d : Nat} {c : Bool} {P : Prop} {dec : Decidable P} (h : gst ops R g = some (.p d c P dec)) : get R d = some (.p P dec) ∧ ∃ j oj, g = some (j, c) ∧ ops[j]? = some oj ∧ oj.dst = some d := by
  unfold gst at h
  split at h
  · cases h
  · split at h
    · rename_i hj
      split at h
      · rename_i hd
        split at h
        · split at h <;> cases h
        · rename_i hg
          cases h
          exact ⟨hg, _, _, rfl, hj, hd⟩
        · cases h
        · split at h <;> cases h
        · cases h
      · cases h
    · cases h
theorem aAe {ops : Array Oper} {R : aaV} {g : Option (Nat × Bool)} {d : Nat} {c x : Bool} (h : gst ops R g = some (.b d c x)) : get R d = some (.b x) ∧ ∃ j oj, g = some (j, c) ∧ ops[j]? = some oj ∧ oj.dst = some d := by
  unfold gst at h
  split at h
  · cases h
  · split at h
    · rename_i hj
      split at h
      · rename_i hd
        split at h
        · split at h <;> cases h
        · cases h
        · rename_i hg
          cases h
          exact ⟨hg, _, _, rfl, hj, hd⟩
        · split at h <;> cases h
        · cases h
      · cases h
    · cases h
theorem aeu {ops : Array Oper} {R : aaV} {ρ : Env} {j d : Nat} {c x : Bool} {oj : Oper} (hj : ops[j]? = some oj) (hd : oj.dst = some d) : aia ops (dR ρ (at8 R d x)) (some (j, c)) (aAA x c) :=
  aj2 hj hd (List.mem_cons_self ..) aql
def byG {α : Type} (ops : Array Oper) (R : aaV) (g : Option (Nat × Bool)) (yes no : aaV → Option α) : Option α :=
  match gst ops R g with
  | some .yes => yes R
  | some .no => no R
  | some (.p d c P dec) => match c with
    | true => @ite _ P dec (yes (at8 R d true)) (no (at8 R d false))
    | false => @ite _ P dec (no (at8 R d true)) (yes (at8 R d false))
  | some (.b d c x) => match c with
    | true => if x = true then yes (at8 R d true) else no (at8 R d false)
    | false => if x = true then no (at8 R d true) else yes (at8 R d false)
  | none => none
theorem azn {α : Type} {ops : Array Oper} {R : aaV} {g : Option (Nat × Bool)} {yes no : aaV → Option α} {out : α} (h : byG ops R g yes no = some out) {ρ : Env} {nt : Nat} {a : Act} (r : Regs nt a (dR ρ R)) :
    ∃ R', Regs nt a (dR ρ R') ∧ ((aia ops (dR ρ R') g true ∧ yes R' = some out) ∨ (aia ops (dR ρ R') g false ∧ no R' = some out)) := by
  unfold byG at h
  split at h
  · rename_i hg; exact ⟨R, r, .inl ⟨axp hg, h⟩⟩
  · rename_i hg; exact ⟨R, r, .inr ⟨azb hg, h⟩⟩
  · rename_i d c P dec hg
    obtain ⟨h1, j, oj, rfl, hj, hd⟩ := aAd hg
    by_cases hp : P
    · have r' := apA (x := true) h1 (by simp [aay, hp]) r
      refine ⟨_, r', ?_⟩
      cases c with
      | true => simp only [if_pos hp] at h; exact .inl ⟨aeu hj hd, h⟩
      | false => simp only [if_pos hp] at h; exact .inr ⟨aeu hj hd, h⟩
    · have r' := apA (x := false) h1 (by simp [aay, hp]) r
      refine ⟨_, r', ?_⟩
      cases c with
      | true => simp only [if_neg hp] at h; exact .inr ⟨aeu hj hd, h⟩
      | false => simp only [if_neg hp] at h; exact .inl ⟨aeu hj hd, h⟩
  · rename_i d c x hg
    obtain ⟨h1, j, oj, rfl, hj, hd⟩ := aAe hg
    have r' := apA (x := x) h1 rfl r
    cases x <;> cases c <;> simp only [Bool.false_eq_true, if_false, if_true] at h
    · exact ⟨_, r', .inl ⟨aeu hj hd, h⟩⟩
    · exact ⟨_, r', .inr ⟨aeu hj hd, h⟩⟩
    · exact ⟨_, r', .inr ⟨aeu hj hd, h⟩⟩
    · exact ⟨_, r', .inl ⟨aeu hj hd, h⟩⟩
  · cases h
end
end Go.Proofs.YtlcelajkhklkbaaGreat
