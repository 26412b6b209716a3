/- Evaluation by itself: an element of a row,taken out of it. No program occurs here. Evaluation by itself,8: operations,regions. No program occurs here. -/
import Derived.Test.YtkmkhldmflebkaaGreatOzac
import Derived.Test.YtkmkhldmflebkaaGreatOzae
set_option linter.all false
namespace Go.Proofs.YtkmkhldmflebkaaGreat
section
open Go Go.RowKit
section
variable {K : KT} {B : Nat} {w : World} {ρ : Env}
theorem aul {H : KT.H K} {e j c : Nat} {i : Int} {xs : List (K.T c)} {X : List aag} (hel : get H e = some (.elt j i (K.sz c))) (hg : get H j = some (.row c xs)) (s : Sat B w (dH K ρ H ++ X)) :
  Sat B w (abM K ρ e (.cells ((K.vw c (atL (K.df c) xs i)).map .f)) :: abM K ρ j (.gap c xs i e) :: (dH K ρ (del H j) ++ X)) := by
 obtain ⟨hi,b,o2,hA,hp⟩ := amr s hel
 obtain ⟨hn,vss,h2,h3,s2⟩ := aeK s hg
 rw [hn] at hi
 have hxi := abZ (d := K.df c) hi
 have hlt : i.toNat < vss.length := by omega
 have hvs : vss[i.toNat]? = some vss[i.toNat] := List.getElem?_eq_getElem hlt
 have hvl := h3 _ (List.getElem_mem hlt)
 obtain ⟨hh,Hh,k1,k2,a,e1,⟨r1,r2,r3,r4⟩,hL⟩ := s2
 rcases r4 with ⟨r4,_⟩ | ⟨b',o',spare,hA',hsp,hpts⟩
 ·rw [r4] at hA; cases hA
 ·rw [hA] at hA'
  cases hA'
  obtain ⟨N,p1,p2⟩ := ad8 (pc := pcS K) hxi hvs
  have hfl := act h3
  have hlow : i.toNat * K.sz c + K.sz c ≤ vss.flatten.length := by
   rw [hfl]
   have : (i.toNat + 1) * K.sz c ≤ vss.length * K.sz c := Nat.mul_le_mul_right _ hlt
   rw [Nat.add_mul] at this; omega
  have hmid : (vss.flatten.drop (i.toNat * K.sz c)).take (K.sz c) = vss[i.toNat] := by
   apply List.ext_getElem?
   intro q
   by_cases hq : q < K.sz c
   ·rw [List.getElem?_take_of_lt hq,List.getElem?_drop]
    rw [afG h3 hvs (v := (vss[i.toNat])[q]'(by omega)) (List.getElem?_eq_getElem _),List.getElem?_eq_getElem]
   ·rw [List.getElem?_eq_none (by rw [List.length_take,List.length_drop]; omega),List.getElem?_eq_none (by omega)]
  have e2 : vss.flatten ++ spare = vss.flatten.take (i.toNat * K.sz c) ++ (vss[i.toNat] ++ (vss.flatten.drop (i.toNat * K.sz c + K.sz c) ++ spare)) := by
   rw [← hmid,← List.drop_drop,← List.append_assoc (List.take _ _),← List.append_assoc,List.append_assoc (List.take (i.toNat * K.sz c) _),List.take_append_drop,List.take_append_drop]
  have t1 : Sat B w (pts b o2 (vss.flatten.take (i.toNat * K.sz c) ++ (vss[i.toNat] ++ (vss.flatten.drop (i.toNat * K.sz c + K.sz c) ++ spare))) :: (abx K (pcS K) c xs vss ++ (dH K ρ (del H j) ++ X))) := by
   rw [← e2]; exact ⟨hh,Hh,k1,k2,a,e1,hpts,hL⟩
  have t2 := t1.imp ahl
  have htl : (vss.flatten.take (i.toNat * K.sz c)).length = i.toNat * K.sz c := by rw [List.length_take]; omega
  rw [htl] at t2
  have t3 := (t2.perm (List.Perm.swap ..)).imp ahl
  rw [hvl] at t3
  have t4 : Sat B w ((pts b (o2 + i.toNat * K.sz c) vss[i.toNat] :: fsS (pcS K) (K.vw c (atL (K.df c) xs i)) vss[i.toNat]) ++ ((pts b o2 (vss.flatten.take (i.toNat * K.sz c)) :: pts b (o2 + i.toNat * K.sz c + K.sz c) (vss.flatten.drop (i.toNat * K.sz c + K.sz c) ++ spare) :: N) ++ (dH K ρ (del H j) ++ X))) := by
   refine t3.perm ?_
   simp only [List.cons_append]
   refine List.Perm.cons _ ?_
   refine (List.Perm.swap ..).trans ?_
   refine List.Perm.trans ?_ (List.perm_middle).symm
   refine List.Perm.cons _ ?_
   refine List.Perm.trans ?_ (List.perm_middle).symm
   refine List.Perm.cons _ ?_
   exact (p1.append_right _).trans (by rw [List.append_assoc])
  have t5 : Sat B w (abM K ρ e (.cells ((K.vw c (atL (K.df c) xs i)).map .f)) :: ((pts b o2 (vss.flatten.take (i.toNat * K.sz c)) :: pts b (o2 + i.toNat * K.sz c + K.sz c) (vss.flatten.drop (i.toNat * K.sz c + K.sz c) ++ spare) :: N) ++ (dH K ρ (del H j) ++ X))) := by
   refine ae0 (fun k hk =>⟨vss[i.toNat],?_⟩) t4
   show abk (pts (ρ.p e).1 (ρ.p e).2 vss[i.toNat] :: fsS (fS K ρ) (List.map Fd.f (K.vw c (atL (K.df c) xs i))) vss[i.toNat]) k
   rw [hp,aiW (pcS K) (fS K ρ) (fun x v =>rfl)]
   exact hk
  have t6 := t5.perm (List.perm_middle (l₁ := pts b o2 (vss.flatten.take (i.toNat * K.sz c)) :: pts b (o2 + i.toNat * K.sz c + K.sz c) (vss.flatten.drop (i.toNat * K.sz c + K.sz c) ++ spare) :: N) (l₂ := dH K ρ (del H j) ++ X)).symm
  have t7 : Sat B w (abM K ρ j (.gap c xs i e) :: (abM K ρ e (.cells ((K.vw c (atL (K.df c) xs i)).map .f)) :: (dH K ρ (del H j) ++ X))) := by
   refine ae0 (fun k hk =>?_) t6
   exact ⟨b,o2,vss,spare,N,hi,⟨hA,hn,hp⟩,⟨by omega,h3⟩,⟨r2,r3,hsp⟩,fun x' vs' =>p2 x' vs',hk⟩
  exact t7.perm (List.Perm.swap ..)
theorem ar0 {H H1 : KT.H K} {e j c : Nat} {i : Int} {xs : List (K.T c)} {fs : List (Fd K.T K.M)} {l : List (Fl K.T K.M)} {x : K.T c} {X : List aag} (hg : get H j = some (.gap c xs i e)) (he : get (del H j) e = some (.cells fs))
  (hl : amL K (asm K) (del (del H j) e) (K.vw c (K.df c)) fs = some (l,H1)) (hx : K.bk c l = some x) (s : Sat B w (dH K ρ H ++ X)) :
  Sat B w (abM K ρ e (.elt j i (K.sz c)) :: abM K ρ j (.row c (xs.set i.toNat x)) :: (dH K ρ H1 ++ X)) := by
 have s0 := s.imp (aaI (ρ := ρ) hg)
 have s1 : Sat B w (dH K ρ (del H j) ++ (abM K ρ j (.gap c xs i e) :: X)) := s0.perm (List.perm_middle (l₁ := dH K ρ (del H j))).symm
 obtain ⟨vs,s2⟩ := adN (s1.imp (aaI (ρ := ρ) he))
 have hlen := ae1 s2
 have s3 : Sat B w (fsS (fS K ρ) fs vs ++ (dH K ρ (del (del H j) e) ++ (pts (ρ.p e).1 (ρ.p e).2 vs :: abM K ρ j (.gap c xs i e) :: X))) := s2.perm (aas fun f g h1 h2 h3 =>by simp only [h1,h2,h3]; omega)
 have s4 := aeI ajb hl s3
 have hv : (K.vw c x).length = vs.length := by
  have e1 := K.bk_ok _ _ _ hx
  rw [e1]
  have := ae1 (A := fun _ =>True) (abl s4 fun _ =>trivial)
  exact this
 rw [K.sz_ok] at hv
 rw [← K.bk_ok _ _ _ hx] at s4
 have s5 : Sat B w (abM K ρ j (.gap c xs i e) :: ((pts (ρ.p e).1 (ρ.p e).2 vs :: fsS (pcS K) (K.vw c x) vs) ++ (dH K ρ H1 ++ X))) := s4.perm (aas fun f g h1 h2 h3 =>by simp only [h1,h2,h3]; omega)
 obtain ⟨h',Hh',j1,j2,a',e',⟨b,o,vss,spare,N,hi,⟨hA,hn,hq⟩,⟨hvl,hvz⟩,⟨hc1,hc2,hc3⟩,hperm,hst⟩,hL'⟩ := s5
 have s6 : Sat B w ((pts b o (vss.flatten.take (i.toNat * K.sz c)) :: pts b (o + i.toNat * K.sz c + K.sz c) (vss.flatten.drop (i.toNat * K.sz c + K.sz c) ++ spare) :: N) ++ ((pts (ρ.p e).1 (ρ.p e).2 vs :: fsS (pcS K) (K.vw c x) vs) ++ (dH K ρ H1 ++ X))) := ⟨h',Hh',aao.2 ⟨j1,j2,a',e',hst,hL'⟩⟩
 rw [hq] at s6
 have hlt : i.toNat < vss.length := by omega
 have hvs : vss[i.toNat]? = some vss[i.toNat] := List.getElem?_eq_getElem hlt
 have hfl := act hvz
 have hlow : i.toNat * K.sz c + K.sz c ≤ vss.flatten.length := by
  rw [hfl]
  have : (i.toNat + 1) * K.sz c ≤ vss.length * K.sz c := Nat.mul_le_mul_right _ hlt
  rw [Nat.add_mul] at this; omega
 have htl : (vss.flatten.take (i.toNat * K.sz c)).length = i.toNat * K.sz c := by rw [List.length_take]; omega
 have s7 : Sat B w (pts b (o + i.toNat * K.sz c) vs :: pts b (o + i.toNat * K.sz c + K.sz c) (vss.flatten.drop (i.toNat * K.sz c + K.sz c) ++ spare) :: (pts b o (vss.flatten.take (i.toNat * K.sz c)) :: (fsS (pcS K) (K.vw c x) vs ++ N) ++ (dH K ρ H1 ++ X))) := s6.perm (aas fun f g h1 h2 h3 =>by simp only [h1,h2,h3]; omega)
 have s8 := s7.imp (ahm (by rw [← hv]))
 have s9 := (s8.perm (List.Perm.swap ..)).imp (ahm (by rw [htl]))
 have e2 : vss.flatten.take (i.toNat * K.sz c) ++ (vs ++ (vss.flatten.drop (i.toNat * K.sz c + K.sz c) ++ spare)) = (vss.set i.toNat vs).flatten ++ spare := by
  have := aeB (o := 0) (us := vs) hvz hvs (by omega)
  have e3 : (vss[i.toNat]).take 0 ++ vs ++ (vss[i.toNat]).drop (0 + vs.length) = vs := by
   have := hvz _ (List.getElem_mem hlt)
   rw [List.drop_eq_nil_of_le (by omega)]; simp
  rw [e3,Nat.add_zero,← hv] at this
  rw [this]; simp only [List.append_assoc]
 rw [e2] at s9
 have s10 : Sat B w ((pts b o ((vss.set i.toNat vs).flatten ++ spare) :: abx K (pcS K) c (xs.set i.toNat x) (vss.set i.toNat vs)) ++ (dH K ρ H1 ++ X)) := s9.perm (List.Perm.cons _ ((hperm x vs).symm.append_right _))
 have hz2 : ∀ v ∈ vss.set i.toNat vs,v.length = K.sz c := fun v hv' =>by
  rcases List.mem_or_eq_of_mem_set hv' with e | e
  ·exact hvz v e
  ·rw [e,← hv]
 have s11 : Sat B w (abM K ρ j (.row c (xs.set i.toNat x)) :: (dH K ρ H1 ++ X)) := by
  refine ae0 (fun k hk =>?_) s10
  obtain ⟨q1,q2,qa,qe,g1,g2⟩ := hk
  refine ⟨by rw [List.length_set]; exact hn,abT.2 ⟨vss.set i.toNat vs,q1,q2,qa,qe,⟨?_,?_,hc2,.inr ⟨b,o,spare,hA,?_,g1⟩⟩,g2⟩⟩
  ·rw [act hz2,List.length_set,List.length_set,hvl]
  ·rw [List.length_set]; exact hc1
  ·rw [List.length_set]; exact hc3
 refine abl s11 fun k =>?_
 show anW ρ e j (K.sz c) i
 exact ⟨⟨hi.1,by rw [hn]; exact hi.2⟩,b,o,hA,hq⟩
end
section
variable (K : KT)
def roF : Fl K.T K.M → Bool
 | .ro .. =>true
 | _ =>false
def aAn : Fl K.T K.M → Bool
 | .row .. =>true
 | _ =>false
def atT (H : KT.H K) (id : Nat) : Option (KT.H K) :=
 match get H id with
 | some (.elt j i sz) =>match get H j with
  | some (.row c xs) =>match Nat.beq sz (K.sz c) && ((K.vw c (K.df c)).any (aAn K) || (Nat.ble 2 sz && (K.vw c (K.df c)).any (roF K))) with
   | true =>some ((id,.cells ((K.vw c (atL (K.df c) xs i)).map .f)) :: (j,.gap c xs i id) :: del (del H j) id)
   | false =>none
  | _ =>none
 | _ =>none
def amw (H : KT.H K) (j : Nat) : Option (KT.H K) :=
 match get H j with
 | some (.gap c xs i e) =>match get (del H j) e with
  | some (.cells fs) =>match amL K (asm K) (del (del H j) e) (K.vw c (K.df c)) fs with
   | some (l,H1) =>match K.bk c l with
    | some x =>some ((e,.elt j i (K.sz c)) :: (j,.row c (xs.set i.toNat x)) :: H1)
    | none =>none
   | none =>none
  | _ =>none
 | _ =>none
def awA : KT.H K → List Nat
 | [] =>[]
 | p :: H =>match p.2 with
  | .gap .. =>p.1 :: awA H
  | _ =>awA H
def aj0 : List Nat → KT.H K → KT.H K
 | [],H =>H
 | j :: l,H =>match amw K H j with
  | some H' =>aj0 l H'
  | none =>aj0 l H
def ay2 (H : KT.H K) : KT.H K := aj0 K (awA K H) H
def auk : KT.H K → List Nat
 | [] =>[]
 | p :: H =>match p.2 with
  | .gap c .. =>match (K.ls 3 c).isSome || (K.ls 1 c).isSome with
   | true =>auk H
   | false =>p.1 :: auk H
  | _ =>auk H
def aAa (H : KT.H K) : KT.H K := aj0 K (auk K H) H
def ars (H : KT.H K) (v : V) : Option (KT.H K) :=
 match v with
 | .ptr id _ =>match atT K H id with
  | some H1 =>some H1
  | none =>match get H id with
   | some (.elt j _ _) =>match amw K H j with
    | some H1 =>atT K H1 id
    | none =>none
   | _ =>none
 | _ =>none
end
section
variable {K : KT} {B : Nat} {w : World} {ρ : Env} {X : List aag}
theorem aow {H H' : KT.H K} {id : Nat} (h : atT K H id = some H') (s : Sat B w (dH K ρ H ++ X)) : Sat B w (dH K ρ H' ++ X) := by
 unfold atT at h
 split at h
 ·rename_i j i sz hel
  split at h
  ·rename_i c xs hg
   split at h
   ·rename_i hB
    cases h
    simp only [Bool.and_eq_true] at hB
    obtain rfl := Nat.eq_of_beq_eq_true hB.1
    have s1 := aul hel hg s
    have s2 : Sat B w (dH K ρ (del H j) ++ (abM K ρ id (.cells ((K.vw c (atL (K.df c) xs i)).map .f)) :: abM K ρ j (.gap c xs i id) :: X)) := s1.perm (aas fun f g h1 h2 h3 =>by simp only [h1,h2,h3]; omega)
    have s3 := s2.imp (ak5 (id := id))
    exact s3.perm (aas fun f g h1 h2 h3 =>by simp only [dH,List.map_cons,h1,h2,h3]; omega)
   ·cases h
  ·cases h
 ·cases h
theorem ai6 {H H' : KT.H K} {j : Nat} (h : amw K H j = some H') (s : Sat B w (dH K ρ H ++ X)) : Sat B w (dH K ρ H' ++ X) := by
 unfold amw at h
 split at h
 ·rename_i c xs i e hg
  split at h
  ·rename_i fs he
   split at h
   ·rename_i l H1 hl
    split at h
    ·rename_i x hx
     cases h
     exact ar0 hg he hl hx s
    ·cases h
   ·cases h
  ·cases h
 ·cases h
theorem agZ : ∀ {l : List Nat} {H : KT.H K},Sat B w (dH K ρ H ++ X) → Sat B w (dH K ρ (aj0 K l H) ++ X)
 | [],_,s =>s
 | j :: l,H,s =>by
  unfold aj0
  split
  ·rename_i H' h; exact agZ (ai6 h s)
  ·exact agZ s
theorem akL {H H' : KT.H K} {v : V} (h : ars K H v = some H') (s : Sat B w (dH K ρ H ++ X)) : Sat B w (dH K ρ H' ++ X) := by
 unfold ars at h
 split at h
 ·split at h
  ·rename_i h1; cases h; exact aow h1 s
  ·split at h
   ·split at h
    ·rename_i h1; exact aow h (ai6 h1 s)
    ·cases h
   ·cases h
 ·cases h
theorem anG {H : KT.H K} (s : Sat B w (dH K ρ H ++ X)) : Sat B w (dH K ρ (ay2 K H) ++ X) := agZ s
theorem aw2 {H : KT.H K} (s : Sat B w (dH K ρ H ++ X)) : Sat B w (dH K ρ (aAa K H) ++ X) := agZ s
end
section
variable (K : KT)
def rd1 (H : KT.H K) (id o : Nat) : Option V := match opn K 0 H id o with
 | some (false,_,v) =>some v
 | _ =>none
def rdN (H : KT.H K) (id : Nat) : Nat → Nat → Option (List V)
 | 0,_ =>some []
 | k + 1,o =>match rd1 K H id o with
  | some v =>match rdN H id k (o + 1) with
   | some l =>some (v :: l)
   | none =>none
  | none =>none
def ldV (P : Program) (H : KT.H K) (T : TypeId) (x : V) : Option V :=
 match x with
 | .ptr id o =>match ac2 P T with
  | some none =>rd1 K H id o
  | some (some k) =>(rdN K H id k o).map .agg
  | none =>none
 | _ =>none
end
section
variable {K : KT} {P : Program} {B : Nat}
theorem aof {H : KT.H K} {id o : Nat} {v : V} (h : rd1 K H id o = some v) {ρ : Env} {w : World} {X : List aag} (s : Sat B w (dH K ρ H ++ X)) : w.cell? ⟨(ρ.p id).1,(ρ.p id).2 + o,none⟩ = some (aar ρ v) := by
 unfold rd1 at h
 split at h
 ·rename_i h1
  cases h
  obtain ⟨ρ',⟨_,he⟩,_,hc⟩ := al6 (X := fun _ =>X) h1 (fun e =>by cases e) s
  obtain rfl := he rfl
  exact hc
 ·cases h
theorem aoe {H : KT.H K} {id : Nat} : ∀ {k o : Nat} {l : List V},rdN K H id k o = some l → ∀ {ρ : Env} {w : World} {X : List aag},Sat B w (dH K ρ H ++ X) → l.length = k ∧ ∀ j v,(aam ρ l)[j]? = some v → w.cell? ⟨(ρ.p id).1,(ρ.p id).2 + o + j,none⟩ = some v
 | 0,o,l,h,ρ,w,X,s =>by cases h; exact ⟨rfl,fun j v hj =>by simp [aam] at hj⟩
 | k + 1,o,l,h,ρ,w,X,s =>by
  unfold rdN at h
  split at h
  ·rename_i v h1
   split at h
   ·rename_i l' h2
    cases h
    obtain ⟨hl,hc⟩ := aoe h2 s
    refine ⟨by simp [hl],fun j u hj =>?_⟩
    cases j with
    | zero =>
     simp only [aam,List.getElem?_cons_zero,Option.some.injEq] at hj
     rw [← hj]; exact aof h1 s
    | succ j =>
     simp only [aam,List.getElem?_cons_succ] at hj
     rw [← hc j u hj]; congr 2; omega
   ·cases h
  ·cases h
theorem awr {o : Oper} {H : KT.H K} {T : TypeId} {x : Operand} {u v : V} {R : aaO} {nt : Nat} (ho : o.op = .load T x) (hx : evO R x = some u) (h : ldV K P H T u = some v) {ρ : Env} {a : Act} {w : World} {X : List aag} (r : Regs nt a (dR ρ R)) (s : Sat B w (dH K ρ H ++ X)) :
  (execOp a.eval o).run P w = .ok (.value (aar ρ v)) w := by
 obtain ⟨d,op,ty,ps,af,g⟩ := o
 simp only at ho
 subst ho
 have ex := (aaA (ρ := ρ) hx).eval r
 unfold ldV at h
 split at h
 ·rename_i id o'
  have fin : (Instr.loadAt T (.pointer (some ⟨(ρ.p id).1,(ρ.p id).2 + o',none⟩))).run P w = .ok (aar ρ v) w → (execOp a.eval ⟨d,.load T x,ty,ps,af,g⟩).run P w = .ok (.value (aar ρ v)) w := fun h6 =>by
   simp only [execOp,ex,aar]
   rw [aaa h6]; rfl
  split at h
  ·rename_i hT
   exact fin (aff hT (aof h s))
  ·rename_i k hT
   simp only [Option.map_eq_some_iff] at h
   obtain ⟨l,hl,rfl⟩ := h
   obtain ⟨h1,h2⟩ := aoe hl s
   exact fin (afB hT (by rw [aaH]; simpa using h1) h2 rfl)
  ·cases h
 ·cases h
end
section
variable (K : KT)
def awI (P : Program) (R : aaO) (n : Nat) (Z H : KT.H K) (T : TypeId) (x : V) : Option (Nat × KT.H K × V) :=
 match x with
 | .ptr id o =>match ac2 P T with
  | some none =>match get (H ++ Z) id with
   | some (.elt j i sz) =>match get (H ++ Z) j with
    | some (.rr c xss) =>match Nat.beq sz 1 && Nat.beq o 0 && (Nat.ble (ac8 (H ++ Z)) n && Nat.ble (an2 R) n) with
     | true =>some (n + 1,(n,.ro c (atL [] xss i)) :: H,.sl n)
     | false =>none
    | _ =>none
   | _ =>none
  | _ =>none
 | _ =>none
end
section
variable {K : KT} {P : Program} {nt n B : Nat} {W : World} {R : aaO} {Z H : KT.H K} {nx : Nat → KT.H K → V → Prop}
theorem ai4 {ρ : Env} (H H' : KT.H K) : dH K ρ (H ++ H') = dH K ρ H ++ dH K ρ H' := by simp [dH]
theorem avT {ρ : Env} {j c : Nat} {xss : List (List (K.T c))} (hg : get H j = some (.rr c xss)) {X : List aag} : Ent (dH K ρ H ++ X) (abM K ρ j (.rr c xss) :: (dH K ρ H ++ X)) := fun h0 t0 =>by
 obtain ⟨j1,j2,a1,e1,⟨m1,ps,m2⟩,mL⟩ := aaI (ρ := ρ) hg h0 t0
 obtain ⟨p,hp,hΦ⟩ := m2
 have hpp : ∀ b o x,p b o = some x → (∃ v,x = .look v) ∧ h0 b o = some x := fun b o x hx =>⟨(hp b o x hx).1,by rw [e1]; unfold ab1; rw [(hp b o x hx).2]⟩
 refine ⟨p,h0,fun b o =>?_,?_,⟨m1,ps,p,fun b o x hx =>⟨(hpp b o x hx).1,hx⟩,hΦ⟩,t0⟩
 ·cases hpb : p b o with
  | none =>exact .inl rfl
  | some x =>
   obtain ⟨⟨v,rfl⟩,h2⟩ := hpp b o x hpb
   exact .inr (.inr ⟨v,rfl,h2⟩)
 ·funext b o
  unfold ab1
  cases hpb : p b o with
  | none =>rfl
  | some x =>exact (hpp b o x hpb).2
theorem ao7 {o : Oper} {T : TypeId} {x : Operand} {u v : V} {n' : Nat} {H' : KT.H K} (ho : o.op = .load T x) (hx : evO R x = some u) (h : awI K P R n Z H T u = some (n',H',v)) (hn : nx n' H' v) : acw K P nt B W o R n Z H nx := fun F ρ a w s =>by
 obtain ⟨d,op,ty,ps,af,g⟩ := o
 simp only at ho
 subst ho
 have ex := (aaA (ρ := ρ) hx).eval s.regs
 unfold awI at h
 split at h
 ·rename_i id o'
  split at h
  ·rename_i hT
   split at h
   ·rename_i j i sz hgi
    split at h
    ·rename_i c xss hgj
     split at h
     ·rename_i hB
      cases h
      simp only [Bool.and_eq_true] at hB
      obtain ⟨⟨b1,b2⟩,b3,b4⟩ := hB
      have hn1 : ac8 (H ++ Z) ≤ n := Nat.le_of_ble_eq_true b3
      have hji := aen hgi
      have hjn : j < n := Nat.lt_of_lt_of_le (aen hgj).1 hn1
      have hin : id < n := Nat.lt_of_lt_of_le hji.1 hn1
      have s0 : Sat B w (dH K ρ (H ++ Z) ++ [F]) := by rw [ai4,List.append_assoc]; exact s.sat
      have he := amr s0 hgi
      have s1 := s0.imp (avT (ρ := ρ) hgj)
      have s2 : Sat B w (dH K ρ [(id,.elt j i sz),(j,.rr c xss)] ++ (dH K ρ (H ++ Z) ++ [F])) := abl s1 fun k =>he
      have hne : Nat.beq id j = false := by
       cases hq : Nat.beq id j with
       | false =>rfl
       | true =>
        have := Nat.eq_of_beq_eq_true hq
        subst this
        rw [hgi] at hgj; cases hgj
      have hop : opn K n [(id,.elt j i sz),(j,.rr c xss)] id o' = some (true,(n,.ro c (atL [] xss i)) :: (j,.rr c xss) :: del [(id,.elt j i sz),(j,.rr c xss)] j,.sl n) := by
       have g1 : get [(id,(Ch.elt j i sz : Ch K.T K.M)),(j,.rr c xss)] id = some (.elt j i sz) := by unfold get; rw [Nat.beq_refl]
       have g2 : get [(id,(Ch.elt j i sz : Ch K.T K.M)),(j,.rr c xss)] j = some (.rr c xss) := by unfold get; rw [hne]; simp only [get]; rw [Nat.beq_refl]
       have g3 : Nat.ble (ac8 [(id,(Ch.elt j i sz : Ch K.T K.M)),(j,.rr c xss)]) n = true := by
        refine Nat.ble_eq_true_of_le ?_
        refine ajk ⟨ajk ⟨hin,?_⟩,ajk ⟨ajk ⟨hjn,Nat.zero_le _⟩,Nat.zero_le _⟩⟩
        exact hjn
       unfold opn
       simp only [g1,g2,b1,b2,g3,Bool.and_self]
      obtain ⟨ρ',⟨ha,_⟩,s3,hc⟩ := al6 (X := fun ρ =>dH K ρ (H ++ Z) ++ [F]) hop (fun _ ρ' ha =>by rw [abv ha _ hn1]) s2
      have s4 : Sat B w (dS K ρ' Z ((n,.ro c (atL [] xss i)) :: H) F) := by
       have e : dS K ρ' Z ((n,.ro c (atL [] xss i)) :: H) F = abM K ρ' n (.ro c (atL [] xss i)) :: (dH K ρ' (H ++ Z) ++ [F]) := by
        rw [ai4,List.append_assoc]; rfl
       rw [e]
       refine s3.imp fun k hk =>?_
       exact abf (fun q hq =>ada (L := dH K ρ' ((j,.rr c xss) :: del [(id,.elt j i sz),(j,.rr c xss)] j)) hq) hk
      have : (execOp a.eval ⟨d,.load T x,ty,ps,af,g⟩).run P w = .ok (.value (aar ρ' (.sl n))) w := by
       simp only [execOp,ex,aar]
       rw [aaa (aff hT hc)]; rfl
      rw [this]
      exact ⟨⟨ρ',n + 1,(n,.ro c (atL [] xss i)) :: H,.sl n⟩,rfl,⟨ha,Nat.le_succ _,(abd ha _ (Nat.le_of_ble_eq_true b4)).symm,hn⟩,s.below,s.lo,s4⟩
     ·cases h
    ·cases h
   ·cases h
  ·cases h
 ·cases h
end
def aeu : Nat := 1000000000
def mI (name : String) : Option Nat := if name = "Step" then some 0 else if name = "Result" then some 1 else if name = "Copy" then some 2 else none
def mN : Nat → String
 | 0 =>"Step"
 | 1 =>"Result"
 | _ =>"Copy"
theorem azo {name : String} {i : Nat} (h : mI name = some i) : mN i = name := by
 unfold mI at h
 split at h
 ·cases h; rename_i e; exact e.symm
 ·split at h
  ·cases h; rename_i e; exact e.symm
  ·split at h
   ·cases h; rename_i e; exact e.symm
   ·cases h
def aek (P : Program) (fid : FuncId) (args : Array Value) (w : World) (Q : Ending → World → Prop) : Prop :=
 match Nat.blt fid aeu with
 | true =>Calls P fid args w Q
 | false =>∃ (T : TypeId) (u : Value) (rest : Array Value) (f : FuncId),args = #[.iface T u] ++ rest ∧ (∀ w',(callMethod (.iface T u) (mN (fid - aeu)) rest).run P w' = .ok (.enter f (#[u] ++ rest)) w') ∧ Calls P f (#[u] ++ rest) w Q
theorem adh {P : Program} {fid : FuncId} {args : Array Value} {w : World} {Q : Ending → World → Prop} (h : Nat.blt fid aeu = true) : aek P fid args w Q = Calls P fid args w Q := by
 unfold aek; rw [h]
theorem anN {P : Program} {i : Nat} {args : Array Value} {w : World} {Q : Ending → World → Prop} : aek P (aeu + i) args w Q = ∃ (T : TypeId) (u : Value) (rest : Array Value) (f : FuncId),args = #[.iface T u] ++ rest ∧ (∀ w',(callMethod (.iface T u) (mN i) rest).run P w' = .ok (.enter f (#[u] ++ rest)) w') ∧ Calls P f (#[u] ++ rest) w Q := by
 have h : Nat.blt (aeu + i) aeu = false := by
  cases hb : Nat.blt (aeu + i) aeu with
  | false =>rfl
  | true =>have := Nat.le_of_ble_eq_true hb; omega
 unfold aek
 rw [h,show aeu + i - aeu = i by omega]
theorem aek.mono {P : Program} {fid : FuncId} {args : Array Value} {w : World} {Q Q' : Ending → World → Prop} (h : aek P fid args w Q) (hq : ∀ e w',Q e w' → Q' e w') : aek P fid args w Q' := by
 unfold aek at h ⊢
 split at h
 ·exact Calls.mono h hq
 ·obtain ⟨T,u,rest,f,e,h1,h2⟩ := h
  exact ⟨T,u,rest,f,e,h1,Calls.mono h2 hq⟩
def awl (P : Program) (T : TypeId) (name : String) : Option FuncId :=
 match P.info? T with
 | some ti =>match ti.methods.find? (fun m =>m.name == name) with
  | some m =>match m.path.toList with
   | [] =>match m.func with
    | some (f,true) =>match P.underlying T with
     | some (.pointer _) =>some f
     | _ =>none
    | _ =>none
   | _ =>none
  | none =>none
 | none =>none
theorem at7 {P : Program} {T : TypeId} {name : String} {f : FuncId} (h : awl P T name = some f) (hc : anO P f = true) (u : Value) (vs : Array Value) (w : World) :
  (callMethod (.iface T u) name vs).run P w = .ok (.enter f (#[u] ++ vs)) w := by
 unfold awl at h
 split at h
 ·rename_i ti hti
  split at h
  ·rename_i m hm
   split at h
   ·rename_i hp
    split at h
    ·rename_i g hg
     split at h
     ·rename_i el hu
      cases h
      have h1 : (typeInfo T).run P w = .ok ti w := by
       unfold typeInfo
       rw [aaa (a := P) (w' := w) rfl,hti]; rfl
      have h2 : (underlying T).run P w = .ok (.pointer el) w := by
       unfold underlying
       rw [aaa (a := P) (w' := w) rfl,hu]; rfl
      have h3 : ∀ s,(receiverAt T (.val u) true s).run P w = .ok u w := fun s =>by
       unfold receiverAt
       rw [aaa h2]; rfl
      have h4 : ∀ k,(method (k + 1) T u name).run P w = .ok (f,u) w := fun k =>by
       unfold method
       rw [aaa h1]
       simp only [hm,hp]
       rw [aaa (a := (T,Place.val u)) (w' := w) rfl]
       simp only [hg]
       rw [aaa (h3 _)]; rfl
      unfold callMethod
      rw [aaa (a := P) (w' := w) rfl]
      rw [show P.types.size + Made.depth = (P.types.size + Made.depth - 1) + 1 from (Nat.succ_pred_eq_of_pos (Nat.lt_of_lt_of_le (by decide) (Nat.le_add_left _ _))).symm]
      rw [aaa (h4 _)]
      exact aoU hc _
     ·cases h
    ·cases h
   ·cases h
  ·cases h
 ·cases h
theorem al9 {P : Program} {a : Act} {w : World} {x : Operand} {name : String} {f : FuncId} {xs : Array Operand} {ts : Array TypeId} {vs : List Value} {T : TypeId} {u : Value} {d : Option Tmp} {ty : TypeId} {ps : String} {af : Array Edge} {g : Option (Nat × Bool)} (hx : a.eval x = .iface T u) (hxs : xs.toList.map a.eval = vs) (hc : (callMethod (.iface T u) name vs.toArray).run P w = .ok (.enter f (#[u] ++ vs.toArray)) w) :
  (execOp a.eval ⟨d,.call ⟨.invoke x name,xs,ts⟩,ty,ps,af,g⟩).run P w = .ok (.enter f (#[u] ++ vs.toArray)) w := by
 have e : xs.map a.eval = vs.toArray := by apply Array.ext'; rw [Array.toList_map,hxs]
 simp only [execOp,resolve,e,hx]
 rw [aaa (a := ({ target := .fn (.method name) #[],args := #[.iface T u] ++ vs.toArray } : Deferred)) (w' := w) rfl]
 simp only [invoke]
 have e0 : (#[Value.iface T u] ++ vs.toArray)[0]? = some (.iface T u) := by simp
 have e1 : (#[Value.iface T u] ++ vs.toArray).extract 1 (#[Value.iface T u] ++ vs.toArray).size = vs.toArray := by apply Array.ext'; simp
 rw [e0,e1]
 exact hc
def amk {α : Type} (j : Int) (f : Nat → Option α) : Nat → Option α
 | 0 =>none
 | m + 1 =>if j = ((m : Nat) : Int) then f m else amk j f m
theorem afF {α : Type} {j : Int} {f : Nat → Option α} {out : α} : ∀ {m : Nat},amk j f m = some out → ∃ i,i < m ∧ j = ((i : Nat) : Int) ∧ f i = some out
 | 0,h =>by cases h
 | m + 1,h =>by
  unfold amk at h
  split at h
  ·rename_i e; exact ⟨m,Nat.lt_succ_self m,e,h⟩
  ·obtain ⟨i,h1,h2⟩ := afF h
   exact ⟨i,Nat.lt_succ_of_lt h1,h2⟩
def axj (P : Program) (R : aaO) (T : TypeId) (x y : Operand) : Option ((Nat × Nat) × (Nat × Int × Nat) × IntKind) :=
 match evO R x with
 | some (.ptr id o) =>match P.underlying T with
  | some (.array len elem) =>match evO R y with
   | some u =>match afP u with
    | some (k,j,_) =>match P.info? elem with
     | some inf =>some ((id,o),(len,j,inf.size),k)
     | none =>none
    | none =>none
   | none =>none
  | _ =>none
 | _ =>none
theorem asb {P : Program} {ρ : Env} {R : aaO} {T : TypeId} {x y : Operand} {id o len sz : Nat} {j : Int} {kk : IntKind} (h : axj P R T x y = some ((id,o),(len,j,sz),kk)) {nt : Nat} {a : Act} (r : Regs nt a (dR ρ R)) {i : Nat} (hi : i < len) (hj : j = ((i : Nat) : Int))
  {d : Option Tmp} {ty : TypeId} {ps : String} {af : Array Edge} {g : Option (Nat × Bool)} (w : World) : (execOp a.eval ⟨d,.indexAddr T x y,ty,ps,af,g⟩).run P w = .ok (.value (aar ρ (.ptr id (o + i * sz)))) w := by
 unfold axj at h
 split at h
 ·rename_i id' o' hx
  have ex := (aaA (ρ := ρ) hx).eval r
  split at h
  ·rename_i len' elem hu
   split at h
   ·rename_i u hy
    split at h
    ·rename_i k j' l hi'
     have ey := (abt (ρ := ρ) hy hi').eval r
     split at h
     ·rename_i inf hinf
      cases h
      subst hj
      have h1 : (0 : Int) ≤ ((i : Nat) : Int) ∧ ((i : Nat) : Int) < (len : Int) := by omega
      have h2 : (Instr.indexAt T (.pointer (some ⟨(ρ.p id).1,(ρ.p id).2 + o,none⟩)) (.int kk ((i : Nat) : Int))).run P w = .ok (.pointer (some ⟨(ρ.p id).1,(ρ.p id).2 + (o + i * inf.size),none⟩)) w := by
       simp [Instr.indexAt,asIntOf,abD hu,sizeOf,abC hinf,h1,hi,Instr.sureAddr,abq,Nat.add_assoc]
      simp only [execOp,ex,ey,aar]
      rw [aaa h2]; rfl
     ·cases h
    ·cases h
   ·cases h
  ·cases h
 ·cases h
def azE (P : Program) (R : aaO) (T : TypeId) (x y : Operand) : Option ((Nat × Nat) × (Nat × Int × Nat) × Int) :=
 match evO R x with
 | some (.vs id o k c) =>match adq P T with
  | some sz =>match evO R y with
   | some u =>match afP u with
    | some (_,j,_) =>some ((id,o),(c,j,sz),k)
    | none =>none
   | none =>none
  | none =>none
 | _ =>none
theorem awJ {P : Program} {ρ : Env} {R : aaO} {T : TypeId} {x y : Operand} {id o len sz : Nat} {j kb : Int} (h : azE P R T x y = some ((id,o),(len,j,sz),kb)) (hb : j < kb) {nt : Nat} {a : Act} (r : Regs nt a (dR ρ R)) {i : Nat} (hj : j = ((i : Nat) : Int))
  {d : Option Tmp} {ty : TypeId} {ps : String} {af : Array Edge} {g : Option (Nat × Bool)} (w : World) : (execOp a.eval ⟨d,.indexAddr T x y,ty,ps,af,g⟩).run P w = .ok (.value (aar ρ (.ptr id (o + i * sz)))) w := by
 unfold azE at h
 split at h
 ·rename_i id' o' k' c' hx
  have ex := aaA (ρ := ρ) hx
  split at h
  ·rename_i sz' hsz
   split at h
   ·rename_i u hy
    split at h
    ·rename_i kk j' l hi
     have ey := abt (ρ := ρ) hy hi
     cases h
     subst hj
     have := (aes (P := P) (n := nt) (d := d) (ty := ty) (ps := ps) (af := af) (g := g) (i := i) (o' := (ρ.p id).2 + (o + i * sz)) ex ey rfl (by omega) hsz (by omega)) a w r
     simpa only [aar] using this
    ·cases h
   ·cases h
  ·cases h
 ·cases h
def ayS (R : aaO) (y : Operand) (k : IntKind) (i : Nat) : aaO := match y with
 | .tmp t =>match get R t with
  | some (.i _ _) =>(t,.l k ((i : Nat) : Int)) :: del R t
  | _ =>R
 | _ =>R
theorem akV {α : Type} {t : Nat} {v : α} {C : List (Nat × α)} : ∀ {R : List (Nat × α)},get R t = some v → get (R ++ C) t = some v
 | [],h =>by cases h
 | (t',v') :: R,h =>by
  rw [List.cons_append]
  unfold get at h ⊢
  cases hb : Nat.beq t' t with
  | true =>rw [hb] at h; exact h
  | false =>rw [hb] at h; exact akV h
theorem aus {P : Program} {ρ : Env} {R : aaO} {T : TypeId} {x y : Operand} {q : Nat × Nat} {len sz : Nat} {j : Int} {kk : IntKind} (h : axj P R T x y = some (q,(len,j,sz),kk)) : ∃ u,evO R y = some u ∧ aar ρ u = .int kk j := by
 unfold axj at h
 split at h
 ·split at h
  ·split at h
   ·rename_i u hy
    split at h
    ·rename_i hi
     split at h
     ·cases h; exact ⟨u,hy,aey hi⟩
     ·cases h
    ·cases h
   ·cases h
  ·cases h
 ·cases h
theorem arc {ρ : Env} {R C : aaO} {y : Operand} {k : IntKind} {i nt : Nat} {u : V} {a : Act} (hu : evO (R ++ C) y = some u) (hd : aar ρ u = .int k ((i : Nat) : Int)) (r : Regs nt a (dR ρ (R ++ C))) : Regs nt a (dR ρ (ayS R y k i ++ C)) := by
 unfold ayS
 split
 ·rename_i t
  split
  ·rename_i k' j' hg
   have hg' : get (R ++ C) t = some (.i k' j') := akV hg
   have e : u = .i k' j' := by
    have : get (R ++ C) t = some u := hu
    rw [hg'] at this; exact (Option.some.inj this).symm
   refine ⟨r.size,r.defers,fun p hp =>?_⟩
   obtain ⟨q,hq,rfl⟩ := List.mem_map.1 hp
   rcases List.mem_append.1 hq with h1 | h1
   ·rcases List.mem_cons.1 h1 with e1 | e1
    ·subst e1
     have := r.has _ (af3 (ρ := ρ) hg')
     rw [← e,hd] at this
     exact this
    ·exact r.has _ (List.mem_map.2 ⟨q,List.mem_append_left _ (aeF e1).1,rfl⟩)
   ·exact r.has _ (List.mem_map.2 ⟨q,List.mem_append_right _ h1,rfl⟩)
  ·exact r
 ·exact r
section
variable (K : KT)
def azj (R : aaO) (H : KT.H K) : Op → Option (KT.H K)
 | .indexAddr _ x _ =>match evO R x with
  | some (.sl id) =>match get H id with
   | some (.gap _ _ _ _) =>amw K H id
   | _ =>none
  | _ =>none
 | _ =>none
def ayT (P : Program) (R : aaO) (n : Nat) (Z H : KT.H K) (op : Op) : Option (List Gd × Nat × KT.H K × V) := match azj K R H op with
 | some H1 =>evX K P R n Z H1 op
 | none =>evX K P R n Z H op
end
section
variable {K : KT} {P : Program} {B : Nat} {w : World} {ρ : Env}
theorem arm {R : aaO} {H H1 : KT.H K} {op : Op} {X : List aag} (h : azj K R H op = some H1) {w : World} (s : Sat B w (dH K ρ H ++ X)) : Sat B w (dH K ρ H1 ++ X) := by
 unfold azj at h
 split at h
 ·split at h
  ·split at h
   ·exact ai6 h s
   ·cases h
  ·cases h
 ·cases h
theorem ar7 {R : aaO} {n n' nt : Nat} {Z H H' : KT.H K} {F : aag} {o : Oper} {gs : List Gd} {v : V} (h : ayT K P R n Z H o.op = some (gs,n',H',v)) (hg : ∀ g ∈ gs,g.P) (s : Sat B w (dS K ρ Z H F)) {a : Act} (r : Regs nt a (dR ρ R)) :
  ∃ ρ',(aau n ρ ρ' ∧ n ≤ n' ∧ dR ρ' R = dR ρ R) ∧ (ρ' = ρ ∨ ac8 Z ≤ n) ∧ (∀ w',Sat B w' (dS K ρ Z H F) → Sat B w' (dS K ρ' Z H' F)) ∧ ∀ w',(execOp a.eval o).run P w' = .ok (.value (aar ρ' v)) w' := by
 unfold ayT at h
 split at h
 ·rename_i H1 h1
  obtain ⟨ρ',q1,q2,q3,q4⟩ := avc h hg (arm h1 s) r
  exact ⟨ρ',q1,q2,fun w' s' =>q3 w' (arm h1 s'),q4⟩
 ·exact avc h hg s r
end
abbrev aha (K : KT) := (α : Type) → FuncId → List V → Nat → KT.H K → KT.H K → (Nat → KT.H K → V → Option α) → Option α
def ag9 (K : KT) (P : Program) (B : Nat) (W : World) (call : aha K) : Prop :=
 ∀ (α : Type) fid vs n Z H (k : Nat → KT.H K → V → Option α) out,call α fid vs n Z H k = some out → aem vs ≤ n → ac8 Z ≤ n → ac8 H ≤ n → ∀ F ρ w,Cls B W (dS K ρ Z H F) w →
  aek P fid (aam ρ vs).toArray w fun e w' =>∃ x : Nx K,(aau n ρ x.ρ ∧ n ≤ x.n ∧ k x.n x.H x.v = some out) ∧ e = .returned (aar x.ρ x.v) ∧ Cls B W (dS K x.ρ Z x.H F) w'
section
variable (K : KT) (P : Program) (call : aha K) {α : Type}
def stp (o : Oper) (R : aaO) (n : Nat) (Z H : KT.H K) (k : Nat → KT.H K → V → Option α) : Option α :=
  match ayT K P R n Z H o.op with
  | some (gs,n',H',v) =>gds gs (k n' H' v)
  | none =>match o.op with
    | .load T x =>match evO R x with
      | some u =>match ldV K P (H ++ Z) T u with
        | some v =>k n H v
        | none =>match ars K H u with
          | some H1 =>match ayV K P R n Z H1 T u with
            | some (n',H',v) =>k n' H' v
            | none =>none
          | none =>match ayV K P R n Z H T u with
            | some (n',H',v) =>k n' H' v
            | none =>match awI K P R n Z H T u with
              | some (n',H',v) =>k n' H' v
              | none =>none
      | none =>none
    | .store T x y =>match evO R x with
      | some u =>match evO R y with
        | some v =>match ayU K P H T u v with
          | some H' =>k n H' (.c undef)
          | none =>match awF K P H T u v with
            | some H' =>k n H' (.c undef)
            | none =>match ars K H u with
              | some H1 =>match ayU K P H1 T u v with
                | some H' =>k n H' (.c undef)
                | none =>none
              | none =>none
        | none =>none
      | none =>none
    | .alloc T =>match amM P T with
      | some vs =>match axf K R n Z H vs with
        | some (n',H',v) =>k n' H' v
        | none =>none
      | none =>none
    | .indexAddr T x y =>match axj P R T x y with
      | some (q,(len,j,sz),_) =>amk j (fun i =>k n H (.ptr q.1 (q.2 + i * sz))) len
      | none =>match azE P R T x y with
        | some (q,(len,j,sz),kb) =>gds [⟨j < kb,inferInstance⟩] (amk j (fun i =>k n H (.ptr q.1 (q.2 + i * sz))) len)
        | none =>match axi K P R (H ++ Z) T x y with
          | some (q,(len,j,sz),_) =>amk j (fun i =>k n H (.ptr q.1 (q.2 + i * sz))) len
          | none =>none
    | .box _ x =>match evO R x with
      | some u =>match (aax u).all (scV H) with
        | true =>match axf K R n Z H (aax u) with
          | some (n',H',v) =>k n' H' v
          | none =>none
        | false =>none
      | none =>none
    | .makeSlice T x y =>match evO R x with
      | some u =>match evO R y with
        | some v =>match azD K P R n Z H T u v with
          | some (gs,n',H',r) =>gds gs (k n' H' r)
          | none =>match azC K P R n Z H T u v with
            | some (gs,n',H',r) =>gds gs (k n' H' r)
            | none =>none
        | none =>none
      | none =>none
    | .insert T x y z =>match ayW K P R n Z H (.insert T x y z) with
      | some (n',H',v) =>k n' H' v
      | none =>none
    | .makeMap T y =>match ayW K P R n Z H (.makeMap T y) with
      | some (n',H',v) =>k n' H' v
      | none =>none
    | .lookup T x y ok =>match ok with
      | true =>match azF K P R H T x y with
        | some (q,j,z) =>aoM j z q.2 (k n H) q.1
        | none =>none
      | false =>none
    | .buildSlice T m parts =>match azH K P R n Z H T m parts.toList with
     | some (n',H',v) =>k n' H' v
     | none =>match azI K P R n Z H T m parts.toList with
      | some (n',H',v) =>k n' H' v
      | none =>match azK K P R n Z H T m parts.toList with
        | some (n',H',v) =>k n' H' v
        | none =>none
    | .call c =>match c.callee with
      | .builtin .append =>match c.args.toList with
        | [x,y] =>match c.argTypes.toList with
          | [T,T'] =>match evO R x with
            | some u =>match evO R y with
              | some v =>match azP K P R n Z H T T' u v with
                | some (gs,n',H',r) =>gds gs (k n' H' r)
                | none =>match azO K P R n Z H T T' u v with
                  | some (gs,n',H',r) =>gds gs (k n' H' r)
                  | none =>match azN K P R n Z H T T' u v with
                    | some (gs,n',H',r) =>gds gs (k n' H' r)
                    | none =>match azM K P R n Z H T T' u v with
                      | some (n',H',r) =>k n' H' r
                      | none =>none
              | none =>none
            | none =>none
          | _ =>none
        | _ =>none
      | .value f =>match evO R f with
        | some (.fn fid caps) =>match auq R c.args.toList with
          | some vs =>match anO P fid && abj K R n Z H && Nat.ble (aem (vs ++ caps)) n && Nat.blt fid aeu with
            | true =>call α fid (vs ++ caps) n Z H k
            | false =>none
          | none =>none
        | some (.bd fid fst) =>match auq R c.args.toList with
          | some vs =>match anO P fid && abj K R n Z H && Nat.ble (aem (fst ++ vs)) n && Nat.blt fid aeu with
            | true =>call α fid (fst ++ vs) n Z H k
            | false =>none
          | none =>none
        | _ =>none
      | .invoke x name =>match mI name with
        | some i =>match evO R x with
          | some (.mc id) =>match auq R c.args.toList with
            | some vs =>match abj K R n Z H && Nat.ble (aem (.mc id :: vs)) n with
              | true =>call α (aeu + i) (.mc id :: vs) n Z H k
              | false =>none
            | none =>none
          | some (.ifc T u) =>match awl P T name with
            | some f =>match auq R c.args.toList with
              | some vs =>match anO P f && abj K R n Z H && Nat.ble (aem (u :: vs)) n && Nat.blt f aeu with
                | true =>call α f (u :: vs) n Z H k
                | false =>none
              | none =>none
            | none =>none
          | _ =>none
        | none =>none
      | _ =>none
    | _ =>none
end
section
variable {K : KT} {P : Program} {call : aha K} {α : Type} {nt n B : Nat} {W : World} {R : aaO} {Z H : KT.H K}
theorem ayD {ρ : Env} (H H' : KT.H K) : dH K ρ (H ++ H') = dH K ρ H ++ dH K ρ H' := by simp [dH]
theorem an4 {o : Oper} {H1 : KT.H K} {nx : Nat → KT.H K → V → Prop} (hT : ∀ (ρ : Env) (w : World) (X : List aag),Sat B w (dH K ρ H ++ X) → Sat B w (dH K ρ H1 ++ X)) (h : acw K P nt B W o R n Z H1 nx) : acw K P nt B W o R n Z H nx :=
 fun F ρ a w s =>h F ρ a w ⟨s.regs,s.below,s.lo,hT ρ w _ s.sat⟩
theorem auU (hc : ag9 K P B W call) {o : Oper} {k : Nat → KT.H K → V → Option α} {out : α} (h : stp K P call o R n Z H k = some out) : acw K P nt B W o R n Z H (fun n' H' v =>k n' H' v = some out) := by
 unfold stp at h
 split at h
 ·rename_i gs n' H' v he
  obtain ⟨h1,h2⟩ := af1 h
  intro F ρ a w s
  obtain ⟨ρ',⟨q1,q2,q3⟩,_,q4,q5⟩ := ar7 he h1 s.sat s.regs
  rw [q5 w]
  exact ⟨⟨ρ',n',H',v⟩,rfl,⟨q1,q2,q3,h2⟩,s.below,s.lo,q4 w s.sat⟩
 ·split at h
  ·rename_i T x ho
   split at h
   ·rename_i u hx
    split at h
    ·rename_i v he
     intro F ρ a w s
     have s1 : Sat B w (dH K ρ (H ++ Z) ++ [F]) := by rw [ayD,List.append_assoc]; exact s.sat
     rw [awr ho hx he s.regs s1]
     exact ⟨⟨ρ,n,H,v⟩,rfl,⟨aau.refl _ _,Nat.le_refl _,rfl,h⟩,s.cls⟩
    ·split at h
     ·rename_i hop
      split at h
      ·rename_i he
       exact an4 (fun _ _ _ =>akL hop) (alt ho hx he h)
      ·cases h
     ·split at h
      ·rename_i he
       exact alt ho hx he h
      ·split at h
       ·rename_i he
        exact ao7 ho hx he h
       ·cases h
   ·cases h
  ·rename_i T x y ho
   split at h
   ·rename_i hx
    split at h
    ·rename_i hy
     split at h
     ·rename_i he; exact ajs ho hx hy he h
     ·split at h
      ·rename_i he; exact amT ho hx hy he h
      ·split at h
       ·rename_i hop
        split at h
        ·rename_i he
         exact an4 (fun _ _ _ =>akL hop) (ajs ho hx hy he h)
        ·cases h
       ·cases h
    ·cases h
   ·cases h
  ·rename_i T ho
   split at h
   ·rename_i hz
    split at h
    ·rename_i he; exact ao8 ho hz he h
    ·cases h
   ·cases h
  ·rename_i T x y ho
   split at h
   ·rename_i q len j sz kk he
    obtain ⟨i,h1,h2,h3⟩ := afF h
    obtain ⟨id,o'⟩ := q
    intro F ρ a w s
    obtain ⟨d,op,ty,ps,af,g⟩ := o
    simp only at ho
    subst ho
    rw [asb he s.regs h1 h2 w]
    exact ⟨⟨ρ,n,H,_⟩,rfl,⟨aau.refl _ _,Nat.le_refl _,rfl,h3⟩,s.cls⟩
   ·split at h
    ·rename_i q len j sz kb he
     obtain ⟨hg,h⟩ := af1 h
     have hb : j < kb := hg _ (List.mem_singleton.2 rfl)
     obtain ⟨i,h1,h2,h3⟩ := afF h
     obtain ⟨id,o'⟩ := q
     intro F ρ a w s
     obtain ⟨d,op,ty,ps,af,g⟩ := o
     simp only at ho
     subst ho
     rw [awJ he hb s.regs h2 w]
     exact ⟨⟨ρ,n,H,_⟩,rfl,⟨aau.refl _ _,Nat.le_refl _,rfl,h3⟩,s.cls⟩
    ·split at h
     ·rename_i q len j sz kk he
      obtain ⟨i,h1,h2,h3⟩ := afF h
      obtain ⟨id,o'⟩ := q
      intro F ρ a w s
      obtain ⟨d,op,ty,ps,af,g⟩ := o
      simp only at ho
      subst ho
      rw [ar9 he (acq s.sat) s.regs h1 h2 w]
      exact ⟨⟨ρ,n,H,_⟩,rfl,⟨aau.refl _ _,Nat.le_refl _,rfl,h3⟩,s.cls⟩
     ·cases h
  ·rename_i T x ho
   split at h
   ·rename_i hx
    split at h
    ·rename_i hs
     split at h
     ·rename_i he; exact atc ho hx hs he h
     ·cases h
    ·cases h
   ·cases h
  ·rename_i T x y ho
   split at h
   ·rename_i hx
    split at h
    ·rename_i hy
     split at h
     ·rename_i he
      obtain ⟨h1,h2⟩ := af1 h
      exact avs ho hx hy he h1 h2
     ·split at h
      ·rename_i he
       obtain ⟨h1,h2⟩ := af1 h
       exact avr ho hx hy he h1 h2
      ·cases h
    ·cases h
   ·cases h
  ·rename_i T x y z ho
   split at h
   ·rename_i n' H' v he
    rw [← ho] at he
    exact asa he h
   ·cases h
  ·rename_i T y ho
   split at h
   ·rename_i n' H' v he
    rw [← ho] at he
    exact asa he h
   ·cases h
  ·rename_i T x y ok ho
   split at h
   ·split at h
    ·rename_i q j z he
     exact awK ho he fun ρ =>amn h
    ·cases h
   ·cases h
  ·rename_i T m parts ho
   split at h
   ·rename_i he; exact avt ho he h
   ·split at h
    ·rename_i he; exact avu ho he h
    ·split at h
     ·rename_i he; exact avv ho he h
     ·cases h
  ·rename_i c ho
   split at h
   ·rename_i hf
    split at h
    ·rename_i x y hxs
     split at h
     ·rename_i T T' hts
      split at h
      ·rename_i hx
       split at h
       ·rename_i hy
        split at h
        ·rename_i he
         obtain ⟨h1,h2⟩ := af1 h
         obtain ⟨callee,xs,ts⟩ := c
         simp only at hf hxs hts
         subst hf
         obtain rfl : xs = #[x,y] := by apply Array.ext'; simpa using hxs
         obtain rfl : ts = #[T,T'] := by apply Array.ext'; simpa using hts
         exact avz ho hx hy he h1 h2
        ·split at h
         ·rename_i he
          obtain ⟨h1,h2⟩ := af1 h
          obtain ⟨callee,xs,ts⟩ := c
          simp only at hf hxs hts
          subst hf
          obtain rfl : xs = #[x,y] := by apply Array.ext'; simpa using hxs
          obtain rfl : ts = #[T,T'] := by apply Array.ext'; simpa using hts
          exact avy ho hx hy he h1 h2
         ·split at h
          ·rename_i he
           obtain ⟨h1,h2⟩ := af1 h
           obtain ⟨callee,xs,ts⟩ := c
           simp only at hf hxs hts
           subst hf
           obtain rfl : xs = #[x,y] := by apply Array.ext'; simpa using hxs
           obtain rfl : ts = #[T,T'] := by apply Array.ext'; simpa using hts
           exact avx K.nc ho hx hy he h1 h2
          ·split at h
           ·rename_i he
            obtain ⟨callee,xs,ts⟩ := c
            simp only at hf hxs hts
            subst hf
            obtain rfl : xs = #[x,y] := by apply Array.ext'; simpa using hxs
            obtain rfl : ts = #[T,T'] := by apply Array.ext'; simpa using hts
            exact avw ho hx hy he h
           ·cases h
       ·cases h
      ·cases h
     ·cases h
    ·cases h
   ·rename_i f hf
    split at h
    ·rename_i fid caps hfn
     split at h
     ·rename_i vs hvs
      split at h
      ·rename_i hB
       intro F ρ a w s
       obtain ⟨d,op,ty,ps,af,g⟩ := o
       simp only at ho
       subst ho
       obtain ⟨callee,xs,ts⟩ := c
       simp only at hf hvs
       subst hf
       simp only [Bool.and_eq_true,abj] at hB
       obtain ⟨⟨⟨b1,⟨⟨b2,b3⟩,b4⟩⟩,b5⟩,b6⟩ := hB
       have ef := (aaA (ρ := ρ) hfn).eval s.regs
       have exs := (agl (ρ := ρ) hvs).eval s.regs
       simp only [aar] at ef
       rw [aru (fst := #[]) (cap := (aam ρ caps).toArray) ef b1 exs]
       have e : (#[] ++ (aam ρ vs).toArray ++ (aam ρ caps).toArray : Array Value) = (aam ρ (vs ++ caps)).toArray := by rw [agX]; simp
       rw [e]
       show Calls P fid _ w _
       have hcm := hc _ _ _ _ _ _ _ _ h (Nat.le_of_ble_eq_true b5) (Nat.le_of_ble_eq_true b3) (Nat.le_of_ble_eq_true b4) F ρ w s.cls
       rw [adh b6] at hcm
       refine hcm.mono ?_
       rintro e w' ⟨x,⟨h1,h2,h3⟩,h4,h5⟩
       exact ⟨x,h4,⟨h1,h2,(abd h1 R (Nat.le_of_ble_eq_true b2)).symm,h3⟩,h5⟩
      ·cases h
     ·cases h
    ·rename_i fid fst hfn
     split at h
     ·rename_i vs hvs
      split at h
      ·rename_i hB
       intro F ρ a w s
       obtain ⟨d,op,ty,ps,af,g⟩ := o
       simp only at ho
       subst ho
       obtain ⟨callee,xs,ts⟩ := c
       simp only at hf hvs
       subst hf
       simp only [Bool.and_eq_true,abj] at hB
       obtain ⟨⟨⟨b1,⟨⟨b2,b3⟩,b4⟩⟩,b5⟩,b6⟩ := hB
       have ef := (aaA (ρ := ρ) hfn).eval s.regs
       have exs := (agl (ρ := ρ) hvs).eval s.regs
       simp only [aar] at ef
       rw [aru (fst := (aam ρ fst).toArray) (cap := #[]) ef b1 exs]
       have e : ((aam ρ fst).toArray ++ (aam ρ vs).toArray ++ #[] : Array Value) = (aam ρ (fst ++ vs)).toArray := by rw [agX]; simp
       rw [e]
       show Calls P fid _ w _
       have hcm := hc _ _ _ _ _ _ _ _ h (Nat.le_of_ble_eq_true b5) (Nat.le_of_ble_eq_true b3) (Nat.le_of_ble_eq_true b4) F ρ w s.cls
       rw [adh b6] at hcm
       refine hcm.mono ?_
       rintro e w' ⟨x,⟨h1,h2,h3⟩,h4,h5⟩
       exact ⟨x,h4,⟨h1,h2,(abd h1 R (Nat.le_of_ble_eq_true b2)).symm,h3⟩,h5⟩
      ·cases h
     ·cases h
    ·cases h
   ·rename_i x name hf
    split at h
    ·rename_i i hmi
     split at h
     ·rename_i id hx
      split at h
      ·rename_i vs hvs
       split at h
       ·rename_i hB
        intro F ρ a w s
        obtain ⟨d,op,ty,ps,af,g⟩ := o
        simp only at ho
        subst ho
        obtain ⟨callee,xs,ts⟩ := c
        simp only at hf hvs
        subst hf
        simp only [Bool.and_eq_true,abj] at hB
        obtain ⟨⟨⟨b2,b3⟩,b4⟩,b5⟩ := hB
        have ex := (aaA (ρ := ρ) hx).eval s.regs
        have exs := (agl (ρ := ρ) hvs).eval s.regs
        have hcm := hc _ _ _ _ _ _ _ _ h (Nat.le_of_ble_eq_true b5) (Nat.le_of_ble_eq_true b3) (Nat.le_of_ble_eq_true b4) F ρ w s.cls
        rw [anN] at hcm
        obtain ⟨T,u,rest,f,e,hrun,hcall⟩ := hcm
        have e' : aar ρ (.mc id) :: aam ρ vs = .iface T u :: rest.toList := by
         have := congrArg Array.toList e
         simpa [aam] using this
        simp only [List.cons.injEq] at e'
        obtain ⟨e1,e2⟩ := e'
        have e3 : rest = (aam ρ vs).toArray := by apply Array.ext'; rw [← e2]
        subst e3
        rw [e1] at ex
        rw [al9 ex exs (by rw [← azo hmi]; exact hrun w)]
        show Calls P f _ w _
        refine hcall.mono ?_
        rintro e w' ⟨x,⟨h1,h2,h3⟩,h4,h5⟩
        exact ⟨x,h4,⟨h1,h2,(abd h1 R (Nat.le_of_ble_eq_true b2)).symm,h3⟩,h5⟩
       ·cases h
      ·cases h
     ·rename_i T u hx
      split at h
      ·rename_i f hml
       split at h
       ·rename_i vs hvs
        split at h
        ·rename_i hB
         intro F ρ a w s
         obtain ⟨d,op,ty,ps,af,g⟩ := o
         simp only at ho
         subst ho
         obtain ⟨callee,xs,ts⟩ := c
         simp only at hf hvs
         subst hf
         simp only [Bool.and_eq_true,abj] at hB
         obtain ⟨⟨⟨b1,⟨⟨b2,b3⟩,b4⟩⟩,b5⟩,b6⟩ := hB
         have ex := (aaA (ρ := ρ) hx).eval s.regs
         have exs := (agl (ρ := ρ) hvs).eval s.regs
         simp only [aar] at ex
         rw [al9 ex exs (at7 hml b1 _ _ _)]
         have e : (#[aar ρ u] ++ (aam ρ vs).toArray : Array Value) = (aam ρ (u :: vs)).toArray := by simp [aam]
         rw [e]
         show Calls P f _ w _
         have hcm := hc _ _ _ _ _ _ _ _ h (Nat.le_of_ble_eq_true b5) (Nat.le_of_ble_eq_true b3) (Nat.le_of_ble_eq_true b4) F ρ w s.cls
         rw [adh b6] at hcm
         refine hcm.mono ?_
         rintro e w' ⟨x,⟨h1,h2,h3⟩,h4,h5⟩
         exact ⟨x,h4,⟨h1,h2,(abd h1 R (Nat.le_of_ble_eq_true b2)).symm,h3⟩,h5⟩
        ·cases h
       ·cases h
      ·cases h
     ·cases h
    ·cases h
   ·cases h
  ·cases h
end
inductive Gs where
 | yes
 | no
 | p (d : Nat) (c : Bool) (P : Prop) (dec : Decidable P)
 | b (d : Nat) (c : Bool) (x : Bool)
def azW : Bool → Bool → Bool
 | true,true =>true
 | false,false =>true
 | _,_ =>false
theorem anQ {x y : Bool} : (x == y) = azW x y := by cases x <;> cases y <;> rfl
def azr : Value → Bool
 | .tuple cs =>Nat.beq cs.size 0
 | _ =>false
theorem awv {v : Value} (h : azr v = true) : v = undef := by
 unfold azr at h
 split at h
 ·rename_i cs
  have := Nat.eq_of_beq_eq_true h
  obtain rfl := Array.eq_empty_of_size_eq_zero this
  rfl
 ·cases h
def gst (ops : Array Oper) (R : aaO) : Option (Nat × Bool) → Option Gs
 | none =>some .yes
 | some (j,c) =>match ops[j]? with
  | some oj =>match oj.dst with
   | some d =>match get R d with
    | some (.t x) =>match azW x c with
     | true =>some .yes
     | false =>some .no
    | some (.p P dec) =>some (.p d c P dec)
    | some (.b x) =>some (.b d c x)
    | some (.c v) =>match azr v with
     | true =>some .no
     | false =>none
    | _ =>none
   | none =>none
  | none =>none
theorem awy {ops : Array Oper} {R : aaO} {ρ : Env} {g : Option (Nat × Bool)} (h : gst ops R g = some .yes) : afm ops (dR ρ R) g true := by
 unfold gst at h
 split at h
 ·exact ao5
 ·split at h
  ·rename_i hj
   split at h
   ·rename_i hd
    split at h
    ·rename_i x hg
     split at h
     ·rename_i hb
      exact ahc hj hd (af3 hg) (by rw [anQ]; exact hb)
     ·cases h
    ·cases h
    ·cases h
    ·split at h <;> cases h
    ·cases h
   ·cases h
  ·cases h
theorem ays {ops : Array Oper} {R : aaO} {ρ : Env} {g : Option (Nat × Bool)} (h : gst ops R g = some .no) : afm ops (dR ρ R) g false := by
 unfold gst at h
 split at h
 ·cases h
 ·split at h
  ·rename_i hj
   split at h
   ·rename_i hd
    split at h
    ·rename_i x hg
     split at h
     ·cases h
     ·rename_i hb
      exact ahc hj hd (af3 hg) (by rw [anQ]; exact hb)
    ·cases h
    ·cases h
    ·rename_i hg
     split at h
     ·rename_i hu
      refine amN hj hd ?_
      have := af3 (ρ := ρ) hg
      simp only [aar] at this
      rw [awv hu] at this
      exact this
     ·cases h
    ·cases h
   ·cases h
  ·cases h
def asY (R : aaO) (d : Nat) (x : Bool) : aaO := (d,.t x) :: del R d
theorem amU {ρ : Env} {R : aaO} {d nt : Nat} {v : V} {x : Bool} {a : Act} (hg : get R d = some v) (hv : aar ρ v = .bool x) (r : Regs nt a (dR ρ R)) : Regs nt a (dR ρ (asY R d x)) :=
 ⟨r.size,r.defers,fun p hp =>by
  obtain ⟨q,hq,rfl⟩ := List.mem_map.1 hp
  rcases List.mem_cons.1 hq with e | e
  ·subst e
   have := r.has _ (af3 (ρ := ρ) hg)
   rw [hv] at this
   exact this
  ·exact r.has _ (List.mem_map.2 ⟨q,(aeF e).1,rfl⟩)⟩
theorem azv {ops : Array Oper} {R : aaO} {g : Option (Nat × Bool)} {d : Nat} {c : Bool} {P : Prop} {dec : Decidable P} (h : gst ops R g = some (.p d c P dec)) : get R d = some (.p P dec) ∧ ∃ j oj,g = some (j,c) ∧ ops[j]? = some oj ∧ oj.dst = some d := by
 unfold gst at h
 split at h
 ·cases h
 ·split at h
  ·rename_i hj
   split at h
   ·rename_i hd
    split at h
    ·split at h <;> cases h
    ·rename_i hg
     cases h
     exact ⟨hg,_,_,rfl,hj,hd⟩
    ·cases h
    ·split at h <;> cases h
    ·cases h
   ·cases h
  ·cases h
theorem azw {ops : Array Oper} {R : aaO} {g : Option (Nat × Bool)} {d : Nat} {c x : Bool} (h : gst ops R g = some (.b d c x)) : get R d = some (.b x) ∧ ∃ j oj,g = some (j,c) ∧ ops[j]? = some oj ∧ oj.dst = some d := by
 unfold gst at h
 split at h
 ·cases h
 ·split at h
  ·rename_i hj
   split at h
   ·rename_i hd
    split at h
    ·split at h <;> cases h
    ·cases h
    ·rename_i hg
     cases h
     exact ⟨hg,_,_,rfl,hj,hd⟩
    ·split at h <;> cases h
    ·cases h
   ·cases h
  ·cases h
theorem ac7 {ops : Array Oper} {R : aaO} {ρ : Env} {j d : Nat} {c x : Bool} {oj : Oper} (hj : ops[j]? = some oj) (hd : oj.dst = some d) : afm ops (dR ρ (asY R d x)) (some (j,c)) (azW x c) :=
 ahc hj hd (List.mem_cons_self ..) anQ
def byG {α : Type} (ops : Array Oper) (R : aaO) (g : Option (Nat × Bool)) (yes no : aaO → Option α) : Option α :=
 match gst ops R g with
 | some .yes =>yes R
 | some .no =>no R
 | some (.p d c P dec) =>match c with
  | true =>@ite _ P dec (yes (asY R d true)) (no (asY R d false))
  | false =>@ite _ P dec (no (asY R d true)) (yes (asY R d false))
 | some (.b d c x) =>match c with
  | true =>if x = true then yes (asY R d true) else no (asY R d false)
  | false =>if x = true then no (asY R d true) else yes (asY R d false)
 | none =>none
theorem ayH {α : Type} {ops : Array Oper} {R : aaO} {g : Option (Nat × Bool)} {yes no : aaO → Option α} {out : α} (h : byG ops R g yes no = some out) {ρ : Env} {nt : Nat} {a : Act} (r : Regs nt a (dR ρ R)) :
  ∃ R',Regs nt a (dR ρ R') ∧ ((afm ops (dR ρ R') g true ∧ yes R' = some out) ∨ (afm ops (dR ρ R') g false ∧ no R' = some out)) := by
 unfold byG at h
 split at h
 ·rename_i hg; exact ⟨R,r,.inl ⟨awy hg,h⟩⟩
 ·rename_i hg; exact ⟨R,r,.inr ⟨ays hg,h⟩⟩
 ·rename_i d c P dec hg
  obtain ⟨h1,j,oj,rfl,hj,hd⟩ := azv hg
  by_cases hp : P
  ·have r' := amU (x := true) h1 (by simp [aar,hp]) r
   refine ⟨_,r',?_⟩
   cases c with
   | true =>simp only [if_pos hp] at h; exact .inl ⟨ac7 hj hd,h⟩
   | false =>simp only [if_pos hp] at h; exact .inr ⟨ac7 hj hd,h⟩
  ·have r' := amU (x := false) h1 (by simp [aar,hp]) r
   refine ⟨_,r',?_⟩
   cases c with
   | true =>simp only [if_neg hp] at h; exact .inr ⟨ac7 hj hd,h⟩
   | false =>simp only [if_neg hp] at h; exact .inl ⟨ac7 hj hd,h⟩
 ·rename_i d c x hg
  obtain ⟨h1,j,oj,rfl,hj,hd⟩ := azw hg
  have r' := amU (x := x) h1 rfl r
  cases x <;> cases c <;> simp only [Bool.false_eq_true,if_false,if_true] at h
  ·exact ⟨_,r',.inl ⟨ac7 hj hd,h⟩⟩
  ·exact ⟨_,r',.inr ⟨ac7 hj hd,h⟩⟩
  ·exact ⟨_,r',.inr ⟨ac7 hj hd,h⟩⟩
  ·exact ⟨_,r',.inl ⟨ac7 hj hd,h⟩⟩
 ·cases h
end
end Go.Proofs.YtkmkhldmflebkaaGreat
