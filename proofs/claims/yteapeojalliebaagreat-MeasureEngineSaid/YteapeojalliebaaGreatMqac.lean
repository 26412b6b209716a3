/- Evaluation by itself,5: reading. No program occurs here. Evaluation by itself,6: loads,stores,memory of its own. No program occurs here. Evaluation by itself: what lies open is put together again. No program occurs here. Evaluation by itself: rows written,elements pointed at. No program occurs here. Evaluation by itself: aggregates,literal slices,elements,interfaces. No program occurs here. -/
import Derived.Test.YteapeojalliebaaGreatMqab
set_option linter.all false
namespace Go.Proofs.YteapeojalliebaaGreat
section
open Go Go.RowKit
structure Nx (K : KT) where
 ρ : Env
 n : Nat
 H : KT.H K
 v : V
def tl (K : KT) (Z : KT.H K) (F : aad) (ρ : Env) : List aad := dH K ρ Z ++ [F]
theorem acX {K : KT} {Z : KT.H K} {F : aad} {n : Nat} (h : afB Z ≤ n) {ρ ρ' : Env} (ha : aay n ρ ρ') : tl K Z F ρ = tl K Z F ρ' := by unfold tl; rw [ab3 ha Z h]
abbrev dS (K : KT) (ρ : Env) (Z H : KT.H K) (F : aad) : List aad := dH K ρ H ++ tl K Z F ρ
def aet (K : KT) (P : Program) (nt B : Nat) (W : World) (o : Oper) (R : aa3) (n : Nat) (Z H : KT.H K) (nx : Nat → KT.H K → V → Prop) : Prop :=
 ∀ F ρ a w,Sta nt B W (dR ρ R) (dS K ρ Z H F) a w → ahX P (fun (x : Nx K) w' =>(aay n ρ x.ρ ∧ n ≤ x.n ∧ dR x.ρ R = dR ρ R ∧ nx x.n x.H x.v) ∧ Cls B W (dS K x.ρ Z x.H F) w') (fun x =>aaw x.ρ x.v) ((execOp a.eval o).run P w)
section
variable {K : KT} {r : Option Nat} {P : Program} {ops : Array Oper} {Q : Exit → Act → World → Prop} {nt n B : Nat} {W : World} {R : aa3} {Z H : KT.H K} {ρ : Env} {o : Oper} {rest : List Oper} {nx : Nat → KT.H K → V → Prop} {F : aad}
theorem aD3 (h : aet K P nt B W o R n Z H nx) (hd : aEg nt o.dst = true) (hg : ajE ops (dR ρ R) o.guard true) (k : ∀ ρ' n' H' v,aay n ρ ρ' → n ≤ n' → nx n' H' v → RT r P ops Q nt B W rest (dR ρ' (arw R o.dst v)) (dS K ρ' Z H' F)) : RT r P ops Q nt B W (o :: rest) (dR ρ R) (dS K ρ Z H F) := fun a w s =>by
 unfold wpListIn
 rw [if_pos (hg.spec s.regs)]
 refine as5 (h F ρ a w s) fun x w' ⟨⟨ha,hn,hR,hx⟩,hw'⟩ =>?_
 have s1 : Regs nt a (dR x.ρ R) := hR ▸ s.regs
 exact k x.ρ x.n x.H x.v ha hn hx _ _ (hw'.st (afF hd a s1))
def azp (H : KT.H K) (id : Nat) : Option Nat := match get H id with
 | some (.row _ xs) =>some xs.length
 | some (.ro _ xs) =>some xs.length
 | some (.rr _ xs) =>some xs.length
 | some (.hole _ xs _ _ _) =>some xs.length
 | some (.gap _ xs _ _) =>some xs.length
 | _ =>none
theorem aia {H : KT.H K} {id m : Nat} (h : azp H id = some m) {w : World} {X : List aad} (s : Sat B w (dH K ρ H ++ X)) : (ρ.s id).n = m := by
 unfold azp at h
 split at h
 ·rename_i hg
  cases h
  obtain ⟨hh,Hh,k1,k2,a,e,⟨h1',h2⟩,hL⟩ := s.imp (aaR (ρ := ρ) hg)
  exact h1'
 ·rename_i hg
  cases h
  obtain ⟨hh,Hh,k1,k2,a,e,⟨h1',h2⟩,hL⟩ := s.imp (aaR (ρ := ρ) hg)
  exact h1'
 ·rename_i hg
  cases h
  obtain ⟨hh,Hh,k1,k2,a,e,⟨h1',h2⟩,hL⟩ := s.imp (aaR (ρ := ρ) hg)
  exact h1'
 ·rename_i hg
  cases h
  obtain ⟨hh,Hh,k1,k2,a,e,⟨h1',h2⟩,hL⟩ := s.imp (aaR (ρ := ρ) hg)
  exact h1'
 ·rename_i hg
  cases h
  obtain ⟨hh,Hh,k1,k2,a,e,⟨_,_,_,_,_,_,⟨_,h1',_⟩,_⟩,hL⟩ := s.imp (aaR (ρ := ρ) hg)
  exact h1'
 ·cases h
end
def atL {α : Type} (d : α) (xs : List α) (i : Int) : α := (xs[i.toNat]?).getD d
def scF {T : Nat → Type} {M : Type} : Fl T M → Option V
 | .i k x =>some (.i k x)
 | .b x =>some (.b x)
 | .c u =>some (aAE u)
 | _ =>none
section
variable {K : KT} {ρ : Env}
theorem aDW {f : Fl K.T K.M} {v : V} (h : scF f = some v) : aaw ρ v = flV f := by
 cases f <;> simp [scF] at h <;> subst h <;> first | rfl | exact aik ..
theorem aGl {f : Fl K.T K.M} {v : V} {u : Value} {k : Hp} (h : scF f = some v) (hp : pcS K f u k) : u = aaw ρ v := by
 rw [aaH] at hp
 cases f <;> simp [scF] at h <;> subst h <;> simp only [aaw,aik] <;> exact hp
theorem aj2 {vss : List (List Value)} {sz : Nat} (hl : ∀ vs ∈ vss,vs.length = sz) : ∀ {i o : Nat} {vs : List Value} {v : Value},vss[i]? = some vs → vs[o]? = some v → vss.flatten[i * sz + o]? = some v := by
 induction vss with
 | nil =>intro i o vs v h; cases h
 | cons us vss ih =>
  intro i o vs v h h'
  have h0 := hl us (List.mem_cons_self ..)
  cases i with
  | zero =>
   simp at h; subst h
   rw [List.flatten_cons,Nat.zero_mul,Nat.zero_add,List.getElem?_append_left (List.getElem?_eq_some_iff.1 h').1]; exact h'
  | succ i =>
   rw [List.flatten_cons,List.getElem?_append_right (by rw [h0,Nat.add_mul]; omega)]
   have := ih (fun vs h =>hl vs (List.mem_cons_of_mem _ h)) (i := i) (by simpa using h) h'
   rw [← this]; congr 1; rw [h0,Nat.add_mul]; omega
theorem ahA {pc : Fl K.T K.M → Value → aad} {c : Nat} : ∀ {xs : List (K.T c)} {vss : List (List Value)} {i : Nat} {x : K.T c} {vs : List Value},xs[i]? = some x → vss[i]? = some vs →
  ∃ M,(act K pc c xs vss).Perm (fsS pc (K.vw c x) vs ++ M) ∧ ∀ x' vs',(act K pc c (xs.set i x') (vss.set i vs')).Perm (fsS pc (K.vw c x') vs' ++ M)
 | [],_,_,_,_,h,_ =>by cases h
 | _ :: _,[],_,_,_,_,h =>by cases h
 | g :: xs,u :: vss,0,x,vs,h,h' =>by
  simp at h h'; subst h h'
  exact ⟨act K pc c xs vss,.refl _,fun _ _ =>.refl _⟩
 | g :: xs,u :: vss,i + 1,x,vs,h,h' =>by
  obtain ⟨M,h1,h2⟩ := ahA (pc := pc) (xs := xs) (vss := vss) (i := i) (by simpa using h) (by simpa using h')
  refine ⟨fsS pc (K.vw c g) u ++ M,?_,fun x' vs' =>?_⟩
  ·exact (h1.append_left _).trans (by rw [← List.append_assoc,← List.append_assoc]; exact List.perm_append_comm.append_right _)
  ·exact ((h2 x' vs').append_left _).trans (by rw [← List.append_assoc,← List.append_assoc]; exact List.perm_append_comm.append_right _)
theorem avX {pc : Fl K.T K.M → Value → aad} {c : Nat} : ∀ {xs : List (K.T c)} {vss : List (List Value)} {L : List aad} {h : Hp},abW (act K pc c xs vss ++ L) h → xs.length = vss.length ∧ ∀ (i : Nat) (x : K.T c) (vs : List Value),xs[i]? = some x → vss[i]? = some vs → (K.vw c x).length = vs.length
 | [],[],_,_,_ =>⟨rfl,fun _ _ _ h =>by cases h⟩
 | x :: xs,vs :: vss,L,h,s =>by
  have s' : abW (fsS pc (K.vw c x) vs ++ (act K pc c xs vss ++ L)) h := by simpa [act] using s
  have h1 := avh s'
  obtain ⟨k1,k2,a,e,_,s2⟩ := aao.1 s'
  obtain ⟨h2,h3⟩ := avX s2
  refine ⟨by simp [h2],fun i y us hy hu =>?_⟩
  cases i with
  | zero =>simp at hy hu; subst hy hu; exact h1
  | succ i =>exact h3 i y us (by simpa using hy) (by simpa using hu)
 | [],_ :: _,_,_,⟨_,_,_,_,hf,_⟩ =>hf.elim
 | _ :: _,[],_,_,⟨_,_,_,_,hf,_⟩ =>hf.elim
theorem aD0 {pc : Fl K.T K.M → Value → aad} {c : Nat} {xs : List (K.T c)} {vss : List (List Value)} {L : List aad} {h : Hp} (s : abW (act K pc c xs vss ++ L) h) : xs.length = vss.length ∧ ∀ vs ∈ vss,vs.length = K.sz c := by
 obtain ⟨h1,h2⟩ := avX s
 refine ⟨h1,fun vs hv =>?_⟩
 obtain ⟨i,hi⟩ := List.mem_iff_getElem?.1 hv
 have hlt : i < xs.length := by rw [h1]; exact (List.getElem?_eq_some_iff.1 hi).1
 rw [← h2 i _ vs (List.getElem?_eq_getElem hlt) hi,K.sz_ok]
theorem akn {B : Nat} {w : World} {H : KT.H K} {X : List aad} {j c : Nat} {xs : List (K.T c)} (s : Sat B w (dH K ρ H ++ X)) (hg : get H j = some (.row c xs)) :
  (ρ.s j).n = xs.length ∧ ∃ vss : List (List Value),xs.length = vss.length ∧ (∀ vs ∈ vss,vs.length = K.sz c) ∧ Sat B w (afb (ρ.s j).a xs.length (ρ.s j).c (K.sz c) vss.flatten :: (act K (pcS K) c xs vss ++ (dH K ρ (del H j) ++ X))) := by
 obtain ⟨h,Hh,k1,k2,a,e,⟨h1',h2⟩,hL⟩ := s.imp (aaR (ρ := ρ) hg)
 rw [adq] at h2
 obtain ⟨vss,s2⟩ := h2
 have s3 : abW ((afb (ρ.s j).a xs.length (ρ.s j).c (K.sz c) vss.flatten :: act K (pcS K) c xs vss) ++ (dH K ρ (del H j) ++ X)) h := aao.2 ⟨k1,k2,a,e,s2,hL⟩
 have h3 : xs.length = vss.length ∧ ∀ vs ∈ vss,vs.length = K.sz c := by
  obtain ⟨q1,q2,a',e',_,hq⟩ := s2
  exact aD0 (L := []) (by simpa using hq)
 exact ⟨h1',vss,h3.1,h3.2,h,Hh,s3⟩
theorem at7 {B : Nat} {w : World} {H : KT.H K} {X : List aad} {id j sz : Nat} {i : Int} (s : Sat B w (dH K ρ H ++ X)) (hg : get H id = some (.elt j i sz)) : avC ρ id j sz i := (s.imp (aaR (ρ := ρ) hg)).pure
theorem aeI {α : Type} {d : α} {xs : List α} {i : Int} (h : 0 ≤ i ∧ i < (xs.length : Int)) : xs[i.toNat]? = some (atL d xs i) := by
 have : i.toNat < xs.length := by omega
 simp [atL,this]
theorem avZ {B : Nat} {w : World} {H : KT.H K} {X : List aad} {id j c o : Nat} {i : Int} {xs : List (K.T c)} {f : Fl K.T K.M} (s : Sat B w (dH K ρ H ++ X)) (hg : get H j = some (.row c xs)) (he : avC ρ id j (K.sz c) i) (hf : (K.vw c (atL (K.df c) xs i))[o]? = some f) :
  ∃ v,w.cell? ⟨(ρ.p id).1,(ρ.p id).2 + o,none⟩ = some v ∧ ∃ L,Sat B w (pcS K f v :: L) ∧ Ent (pcS K f v :: L) (acg K ρ j (.row c xs) :: (dH K ρ (del H j) ++ X)) := by
 obtain ⟨h1',vss,h2,h3,s2⟩ := akn s hg
 obtain ⟨hi,b,o',hA,hp⟩ := he
 rw [h1'] at hi
 have hx := aeI (d := K.df c) hi
 have hlt : i.toNat < vss.length := by omega
 have hvs : vss[i.toNat]? = some vss[i.toNat] := List.getElem?_eq_getElem hlt
 have hsz := h3 _ (List.getElem_mem hlt)
 have hol : o < vss[i.toNat].length := by rw [hsz,← K.sz_ok c (atL (K.df c) xs i)]; exact (List.getElem?_eq_some_iff.1 hf).1
 have hov : (vss[i.toNat])[o]? = some (vss[i.toNat])[o] := List.getElem?_eq_getElem hol
 have hfl := aj2 h3 hvs hov
 obtain ⟨r1,r2,r3,r4⟩ := afE s2 (List.mem_cons_self ..)
 refine ⟨(vss[i.toNat])[o],?_,?_⟩
 ·rcases r4 with ⟨r4,_⟩ | ⟨b2,o2,r4,r5⟩
  ·rw [r4] at hA; cases hA
  ·rw [r4] at hA
   cases hA
   rw [hp]
   have := r5 _ _ hfl
   rw [← Nat.add_assoc] at this
   exact this
 ·obtain ⟨M,p1,_⟩ := ahA (pc := pcS K) hx hvs
  have p2 := (ajZ (pc := pcS K) hf hov).1
  have p3 := p1.trans (p2.append_right M)
  refine ⟨_,ayt s2 p3,fun k hk =>?_⟩
  have s5 : abW ((afb (ρ.s j).a xs.length (ρ.s j).c (K.sz c) vss.flatten :: act K (pcS K) c xs vss) ++ (dH K ρ (del H j) ++ X)) k := by
   refine abF ?_ hk
   exact (List.Perm.swap ..).trans (List.Perm.cons _ (p3.symm.append_right _))
  obtain ⟨j1,j2,a'',e'',g1,g2⟩ := aao.1 s5
  exact ⟨j1,j2,a'',e'',⟨h1',adq.2 ⟨vss,g1⟩⟩,g2⟩
theorem aEa {B : Nat} {w : World} {H : KT.H K} {X : List aad} {id j c o : Nat} {i : Int} {xs : List (K.T c)} {f : Fl K.T K.M} (s : Sat B w (dH K ρ H ++ X)) (hg : get H j = some (.ro c xs)) (he : avC ρ id j (K.sz c) i) (hf : (K.vw c (atL (K.df c) xs i))[o]? = some f) :
  w.cell? ⟨(ρ.p id).1,(ρ.p id).2 + o,none⟩ = some (flV f) := by
 obtain ⟨h,Hh,k1,k2,a,e,⟨h1',h2⟩,hL⟩ := s.imp (aaR (ρ := ρ) hg)
 have s2 : Sat B w (roS (afa K c) (K.sz c) (ρ.s j).a (ρ.s j).c xs :: (dH K ρ (del H j) ++ X)) := ⟨h,Hh,k1,k2,a,e,h2,hL⟩
 obtain ⟨hi,b,o',hA,hp⟩ := he
 rw [h1'] at hi
 have hlt : i.toNat < xs.length := by omega
 obtain ⟨b2,o2,hA2,_,hc⟩ := (auO s2 (List.mem_cons_self ..)).1.at_ hlt
 rw [hA] at hA2
 cases hA2
 have hx := aeI (d := K.df c) hi
 have he2 : xs[i.toNat] = atL (K.df c) xs i := (List.getElem?_eq_some_iff.1 hx).2
 have := hc i.toNat hlt o (flV f) (by rw [he2]; unfold afa; rw [List.getElem?_map,hf]; rfl)
 rw [hp]; exact this
end
section
variable {K : KT} {ρ : Env}
theorem azx {B : Nat} {w : World} {H : KT.H K} {X : Env → List aad} {id j c o n : Nat} {i : Int} {xs : List (K.T c)} {f : Fl K.T K.M} {V0 : V} {ch : Ch K.T K.M} (hop : opF K.vw n (.f f) = (V0,some ch)) (hn : afB H ≤ n) (hX : ∀ ρ',aay n ρ ρ' → X ρ = X ρ')
  (s : Sat B w (dH K ρ H ++ X ρ)) (hg : get H j = some (.row c xs)) (he : avC ρ id j (K.sz c) i) (hf : (K.vw c (atL (K.df c) xs i))[o]? = some f) :
  ∃ ρ',aay n ρ ρ' ∧ Sat B w (dH K ρ' ((n,ch) :: (j,.hole c xs i o V0) :: del H j) ++ X ρ') ∧ w.cell? ⟨(ρ.p id).1,(ρ.p id).2 + o,none⟩ = some (aaw ρ' V0) := by
 obtain ⟨h1',vss,h2,h3,s2⟩ := akn s hg
 obtain ⟨hi,b,o',hA,hp⟩ := he
 rw [h1'] at hi
 have hx := aeI (d := K.df c) hi
 have hlt : i.toNat < vss.length := by omega
 have hvs : vss[i.toNat]? = some vss[i.toNat] := List.getElem?_eq_getElem hlt
 have hsz := h3 _ (List.getElem_mem hlt)
 have hol : o < vss[i.toNat].length := by rw [hsz,← K.sz_ok c (atL (K.df c) xs i)]; exact (List.getElem?_eq_some_iff.1 hf).1
 have hov : (vss[i.toNat])[o]? = some (vss[i.toNat])[o] := List.getElem?_eq_getElem hol
 have hfl := aj2 h3 hvs hov
 obtain ⟨r1,r2,r3,r4⟩ := afE s2 (List.mem_cons_self ..)
 have hcell : w.cell? ⟨(ρ.p id).1,(ρ.p id).2 + o,none⟩ = some (vss[i.toNat])[o] := by
  rcases r4 with ⟨r4,_⟩ | ⟨b2,o2,r4,r5⟩
  ·rw [r4] at hA; cases hA
  ·rw [r4] at hA
   cases hA
   rw [hp]
   have := r5 _ _ hfl
   rw [← Nat.add_assoc] at this
   exact this
 obtain ⟨M,p1,p1'⟩ := ahA (pc := pcS K) hx hvs
 have p2 := (ajZ (pc := pcS K) hf hov).1
 have p3 := p1.trans (p2.append_right M)
 have s3 : Sat B w (pcS K f (vss[i.toNat])[o] :: ((afb (ρ.s j).a xs.length (ρ.s j).c (K.sz c) vss.flatten :: (fsS (pcS K) ((K.vw c (atL (K.df c) xs i)).eraseIdx o) ((vss[i.toNat]).eraseIdx o) ++ M)) ++ (dH K ρ (del H j) ++ X ρ))) := s2.perm (by
  refine (List.Perm.cons _ (p3.append_right _)).trans ?_
  exact List.Perm.swap ..)
 obtain ⟨hh,Hh,k1,k2,a,e,hA1,hL⟩ := s3
 have hfF : fS K ρ (.f f) (vss[i.toNat])[o] k1 := hA1
 obtain ⟨ρ',ha,hv,hd⟩ := aze (Nat.zero_le _) hfF
 rw [hop] at hv hd
 simp only at hv hd
 refine ⟨ρ',ha,?_,by rw [hcell,hv]⟩
 have hgt := ahZ hg
 have hjn : j < n := Nat.lt_of_lt_of_le hgt.1 hn
 obtain ⟨q1,q2,a',e',g1,g2⟩ := aao.1 hL
 rw [ab3 ha (del H j) (Nat.le_trans afA hn),hX _ ha] at g2
 refine ⟨hh,Hh,k1,k2,a,e,hd,q1,q2,a',e',⟨by rw [← (ha j hjn).2.1]; exact h1',?_⟩,g2⟩
 rw [← (ha j hjn).2.1]
 refine ⟨atL (K.df c) xs i,vss,vss[i.toNat],M,⟨hx,hvs,by rw [← hv]; exact hov⟩,fun x' =>?_,(List.getElem?_eq_some_iff.1 hf).1,g1⟩
 have := p1' x' vss[i.toNat]
 rw [ari hvs] at this
 exact this
theorem axE {B : Nat} {w : World} {id c o : Nat} {i : Int} {xs : List (K.T c)} {u : V} {f' : Fl K.T K.M} {x' : K.T c} {L : List aad} (hx' : K.vw c x' = (K.vw c (atL (K.df c) xs i)).set o f')
  (s : Sat B w (acg K ρ id (.hole c xs i o u) :: pcS K f' (aaw ρ u) :: L)) : Sat B w ((fun h =>(ρ.s id).n = (xs.set i.toNat x').length ∧ rwS K c (xs.set i.toNat x') (ρ.s id).a (ρ.s id).c h) :: L) := by
 obtain ⟨hh,Hh,k1,k2,a,e,⟨h1,x,vss,vs,N,⟨hx,hvs,hov⟩,hp,ho,hst⟩,hL⟩ := s
 obtain rfl : x = atL (K.df c) xs i := by unfold atL; rw [hx]; rfl
 have s2 : abW ((afb (ρ.s id).a xs.length (ρ.s id).c (K.sz c) vss.flatten :: (fsS (pcS K) ((K.vw c (atL (K.df c) xs i)).eraseIdx o) (vs.eraseIdx o) ++ N)) ++ (pcS K f' (aaw ρ u) :: L)) hh := aao.2 ⟨k1,k2,a,e,hst,hL⟩
 have hf : (K.vw c (atL (K.df c) xs i))[o]? = some (K.vw c (atL (K.df c) xs i))[o] := List.getElem?_eq_getElem ho
 have p2 := (ajZ (pc := pcS K) hf hov).2 f' (aaw ρ u)
 rw [ari hov,← hx'] at p2
 have s3 : abW ((afb (ρ.s id).a xs.length (ρ.s id).c (K.sz c) vss.flatten :: act K (pcS K) c (xs.set i.toNat x') vss) ++ L) hh := by
  refine abF ?_ s2
  refine List.Perm.cons _ ?_
  refine List.Perm.trans ?_ (((hp x').trans (p2.append_right N)).symm.append_right L)
  simp only [List.cons_append,List.append_assoc]
  exact (List.perm_middle (l₁ := fsS (pcS K) ((K.vw c (atL (K.df c) xs i)).eraseIdx o) (vs.eraseIdx o) ++ N)).trans (by rw [List.append_assoc])
 obtain ⟨j1,j2,a'',e'',g1,g2⟩ := aao.1 s3
 refine ⟨hh,Hh,j1,j2,a'',e'',⟨by rw [List.length_set]; exact h1,adq.2 ⟨vss,?_⟩⟩,g2⟩
 rw [List.length_set]; exact g1
end
section
variable (K : KT)
def opn (n : Nat) (H : KT.H K) (id o : Nat) : Option (Bool × KT.H K × V) :=
 match get H id with
 | some (.cells fs) =>match fs[o]? with
  | some f =>match opF K.vw n f with
   | (v,none) =>some (false,H,v)
   | (v,some c) =>match Nat.ble (afB H) n with
    | true =>some (true,(n,c) :: (id,.cells (fs.set o (.v v))) :: del H id,v)
    | false =>none
  | none =>none
 | some (.elt j i sz) =>match get H j with
  | some (.row c xs) =>match Nat.beq sz (K.sz c) with
   | true =>match (K.vw c (atL (K.df c) xs i))[o]? with
    | some (.ro c' ys) =>match Nat.ble (afB H) n with
     | true =>some (true,(n,.ro c' ys) :: (j,.row c xs) :: del H j,.sl n)
     | false =>none
    | some f =>match scF f with
     | some v =>some (false,H,v)
     | none =>match opF K.vw n (.f f) with
      | (v,some ch) =>match Nat.ble (afB H) n with
       | true =>some (true,(n,ch) :: (j,.hole c xs i o v) :: del H j,v)
       | false =>none
      | (_,none) =>none
    | none =>none
   | false =>none
  | some (.ro c xs) =>match Nat.beq sz (K.sz c) with
   | true =>match (K.vw c (atL (K.df c) xs i))[o]? with
    | some f =>(scF f).map fun v =>(false,H,v)
    | none =>none
   | false =>none
  | some (.rr c xss) =>match Nat.beq sz 1 && Nat.beq o 0 && Nat.ble (afB H) n with
   | true =>some (true,(n,.ro c (atL [] xss i)) :: (j,.rr c xss) :: del H j,.sl n)
   | false =>none
  | _ =>none
 | _ =>none
end
section
variable {K : KT}
theorem atK {n : Nat} {H H' : KT.H K} {id o : Nat} {v : V} {ch : Bool} (h : opn K n H id o = some (ch,H',v)) {ρ : Env} {B : Nat} {w : World} {X : Env → List aad} (hX : ch = true → ∀ ρ',aay n ρ ρ' → X ρ = X ρ') (s : Sat B w (dH K ρ H ++ X ρ)) :
  ∃ ρ',(aay n ρ ρ' ∧ (ch = false → ρ' = ρ)) ∧ Sat B w (dH K ρ' H' ++ X ρ') ∧ w.cell? ⟨(ρ.p id).1,(ρ.p id).2 + o,none⟩ = some (aaw ρ' v) := by
 unfold opn at h
 split at h
 ·rename_i fs hg
  split at h
  ·rename_i f hf
   obtain ⟨vs,u,hu,hl,s2,hc⟩ := aCt s hg hf
   have p1 := (ajZ (pc := fS K ρ) hf hu).1
   have s3 := ayt s2 p1
   split at h
   ·rename_i v' hop
    cases h
    obtain ⟨hh,Hh,k1,k2,a,e,hA,hL⟩ := s3
    -- a value that brings nothing with it
    have key : u = aaw ρ v := by
     cases f with
     | v x =>cases hop; exact hA
     | f x =>
      have hp : pcS K x u k1 := hA
      cases x <;> simp only [opF,Prod.mk.injEq,reduceCtorEq,and_false,and_true] at hop <;> subst hop <;> rw [aaH] at hp <;> simp only [aaw,aik] <;> exact hp
    exact ⟨ρ,⟨aay.refl _ _,fun _ =>rfl⟩,s,by rw [hc,key]⟩
   ·rename_i v' c hop
    split at h
    ·rename_i hb
     cases h
     have hn : afB H ≤ n := Nat.le_of_ble_eq_true hb
     have hgt := ahZ hg
     obtain ⟨hh,Hh,k1,k2,a,e,hA,hL⟩ := s3
     have hft : aCF f ≤ n := Nat.le_trans (ax8 hf) (Nat.le_trans hgt.2 hn)
     obtain ⟨ρ',ha,hv,hd⟩ := aze hft hA
     rw [hop] at hv hd
     simp only at hv hd
     refine ⟨ρ',⟨ha,fun e =>by cases e⟩,?_,by rw [hc,hv]⟩
     have hid : id < n := Nat.lt_of_lt_of_le hgt.1 hn
     have e0 := apL ha (fs.eraseIdx o) (vs.eraseIdx o) (Nat.le_trans aoJ (Nat.le_trans hgt.2 hn))
     have e1 : dH K ρ (del H id) = dH K ρ' (del H id) := ab3 ha _ (Nat.le_trans afA hn)
     rw [e0,e1,(ha id hid).1,hX rfl _ ha] at hL
     have p2 := (ajZ (pc := fS K ρ') hf hu).2 (.v v) u
     rw [ari hu] at p2
     refine ⟨hh,Hh,k1,k2,a,e,hd,?_⟩
     obtain ⟨q1,q2,a',e',hp,hq⟩ := hL
     have s6 : abW ((pts (ρ'.p id).1 (ρ'.p id).2 vs :: fsS (fS K ρ') (fs.set o (.v v)) vs) ++ (dH K ρ' (del H id) ++ X ρ')) k2 := by
      refine ⟨q1,q2,a',e',hp,abF (p2.symm.append_right _) ?_⟩
      exact (apR (L := fsS (fS K ρ') (fs.eraseIdx o) (vs.eraseIdx o) ++ (dH K ρ' (del H id) ++ X ρ')) hv) q2 hq
     obtain ⟨j1,j2,a'',e'',g1,g2⟩ := aao.1 s6
     exact ⟨j1,j2,a'',e'',⟨vs,g1⟩,g2⟩
    ·cases h
  ·cases h
 ·rename_i j i sz hj0
  have he0 := at7 s hj0
  split at h
  ·rename_i c xs hj
   split at h
   ·rename_i hsz
    obtain rfl := Nat.eq_of_beq_eq_true hsz
    have he := he0
    split at h
    ·rename_i c' ys hf
     split at h
     ·rename_i hb
      cases h
      have hn : afB H ≤ n := Nat.le_of_ble_eq_true hb
      obtain ⟨u,hc,L,s2,back⟩ := avZ s hj he hf
      have hgt := ahZ hj
      have hjn : j < n := Nat.lt_of_lt_of_le hgt.1 hn
      obtain ⟨hh,Hh,k1,k2,a,e,hA,hL⟩ := s2
      have hA' := hA
      rw [aaH] at hA'
      obtain ⟨A,cap,hu,hro⟩ := hA'
      have s3 : Sat B w (roS (afa K c') (K.sz c') A cap ys :: L) := ⟨hh,Hh,k1,k2,a,e,hro,hL⟩
      have ha := aci ρ n ⟨A,ys.length,cap⟩
      have e1 : dH K ρ (del H j) = dH K (ρ.setS n ⟨A,ys.length,cap⟩) (del H j) := ab3 ha _ (Nat.le_trans afA hn)
      have e2 : acg K ρ j (.row c xs) = acg K (ρ.setS n ⟨A,ys.length,cap⟩) j (.row c xs) := adJ ha hjn _ (Nat.le_trans hgt.2 hn)
      refine ⟨_,⟨ha,fun e =>by cases e⟩,?_,by rw [hc,hu]; simp [aaw,Env.setS]⟩
      have s4 := s3.imp ayD
      refine s4.imp fun k hk =>?_
      refine aaP (fun k hk =>?_) (abq (fun k hk =>?_) hk)
      ·exact ⟨by simp [Env.setS],by simpa [Env.setS] using hk⟩
      ·have fold : ∀ q : Hp,roS (afa K c') (K.sz c') A cap ys q → pcS K (.ro c' ys) u q := fun q hq =>(aaH (K := K)).2 (show pcW K (obS K) (rwS K) (.ro c' ys) u q from ⟨A,cap,hu,hq⟩)
       have := back k (aaP fold hk)
       rw [e1,e2,hX rfl _ ha] at this
       exact this
     ·cases h
    ·rename_i f _ hf
     split at h
     ·rename_i v' hv
      cases h
      obtain ⟨u,hc,L,⟨hh,Hh,k1,k2,a,e,hA,hL⟩,_⟩ := avZ s hj he hf
      exact ⟨ρ,⟨aay.refl _ _,fun _ =>rfl⟩,s,by rw [hc,aGl hv hA]⟩
     ·split at h
      ·rename_i v' ch' hop
       split at h
       ·rename_i hb
        cases h
        obtain ⟨ρ',ha,hs,hc⟩ := azx hop (Nat.le_of_ble_eq_true hb) (hX rfl) s hj he hf
        exact ⟨ρ',⟨ha,fun e =>by cases e⟩,hs,hc⟩
       ·cases h
      ·cases h
    ·cases h
   ·cases h
  ·rename_i c xs hj
   split at h
   ·rename_i hsz
    obtain rfl := Nat.eq_of_beq_eq_true hsz
    have he := he0
    split at h
    ·rename_i f hf
     simp only [Option.map_eq_some_iff,Prod.mk.injEq] at h
     obtain ⟨v',hv,rfl,rfl,rfl⟩ := h
     exact ⟨ρ,⟨aay.refl _ _,fun _ =>rfl⟩,s,by rw [aEa s hj he hf,aDW hv]⟩
    ·cases h
   ·cases h
  ·rename_i c xss hj
   split at h
   ·rename_i hB
    cases h
    simp only [Bool.and_eq_true] at hB
    obtain ⟨⟨b1,b2⟩,b3⟩ := hB
    obtain rfl := Nat.eq_of_beq_eq_true b1
    obtain rfl := Nat.eq_of_beq_eq_true b2
    have hn : afB H ≤ n := Nat.le_of_ble_eq_true b3
    have hgt := ahZ hj
    have hjn : j < n := Nat.lt_of_lt_of_le hgt.1 hn
    obtain ⟨hi,b,o',hA,hp⟩ := he0
    obtain ⟨hh,Hh,k1,k2,a,e,⟨h1',ps,h2⟩,hL⟩ := s.imp (aaR (ρ := ρ) hj)
    rw [h1'] at hi
    have hx := aeI (d := ([] : List (K.T c))) hi
    have s2 : Sat B w (ae8 _ :: (dH K ρ (del H j) ++ X ρ)) := ⟨hh,Hh,k1,k2,a,e,h2,hL⟩
    obtain ⟨q,hq,_,b2,o2,hA2,_,hc⟩ := (alF s2 (List.mem_cons_self ..)).2 _ _ hx
    rw [hA] at hA2
    cases hA2
    have ha := aci ρ n ⟨q.1,(atL [] xss i).length,q.2⟩
    have e1 : dH K ρ (del H j) = dH K (ρ.setS n ⟨q.1,(atL [] xss i).length,q.2⟩) (del H j) := ab3 ha _ (Nat.le_trans afA hn)
    refine ⟨_,⟨ha,fun e =>by cases e⟩,?_,by rw [hp,Nat.mul_one,Nat.add_zero,hc]; simp [aaw,Env.setS]⟩
    have s3 := s2.imp alG
    refine s3.imp fun k hk =>?_
    rw [e1,hX rfl _ ha] at hk
    refine aaP (fun k hk =>?_) (abq (fun k hk =>aaP (fun k hk =>?_) hk) hk)
    ·refine ⟨by simp [Env.setS],?_⟩
     have := ad2 (Ψ := fun u =>Sl (afa K c) (K.sz c) u u.heap.size q.1 (atL [] xss i) ∧ (atL [] xss i).length ≤ q.2) (fun u hu =>by
      obtain ⟨q',hq',hs,_⟩ := hu.2 _ _ hx
      rw [hq] at hq'
      cases hq'
      exact hs) k hk
     have this2 : roS (afa K c) (K.sz c) q.1 q.2 (atL [] xss i) k := this
     simpa [Env.setS] using this2
    ·have hjn' : j ≠ n := by omega
     exact ⟨by simpa [Env.setS,hjn'] using h1',ps,by simpa [Env.setS,hjn'] using hk⟩
   ·cases h
  ·cases h
 ·cases h
end
section
variable (K : KT)
def aGJ : Nat → Nat → KT.H K → Nat → Nat → Option (Bool × KT.H K × List V)
 | 0,_,H,_,_ =>some (false,H,[])
 | k + 1,n,H,id,o =>match opn K n H id o with
  | some (ch,H',v) =>match Nat.ble (aiR v) (n + 1) with
   | true =>match Nat.blt id n with
    | true =>match aGJ k (n + 1) H' id (o + 1) with
     | some (ch',H'',l) =>some (ch || ch',H'',v :: l)
     | none =>none
    | false =>none
   | false =>none
  | none =>none
end
section
variable {K : KT}
theorem arN : ∀ {k n : Nat} {H H' : KT.H K} {id o : Nat} {l : List V} {ch : Bool} {ρ : Env} {B : Nat} {w : World} {X : Env → List aad},(ch = true → ∀ ρ ρ',aay n ρ ρ' → X ρ = X ρ') → aGJ K k n H id o = some (ch,H',l) → Sat B w (dH K ρ H ++ X ρ) →
  ∃ ρ',(aay n ρ ρ' ∧ (ch = false → ρ' = ρ)) ∧ Sat B w (dH K ρ' H' ++ X ρ') ∧ l.length = k ∧ ∀ j v,(aag ρ' l)[j]? = some v → w.cell? ⟨(ρ.p id).1,(ρ.p id).2 + o + j,none⟩ = some v
 | 0,n,H,H',id,o,l,ch,ρ,B,w,X,hX,h,s =>by
  cases h
  exact ⟨ρ,⟨aay.refl _ _,fun _ =>rfl⟩,s,rfl,fun j v hj =>by simp [aag] at hj⟩
 | k + 1,n,H,H',id,o,l,ch,ρ,B,w,X,hX,h,s =>by
  unfold aGJ at h
  split at h
  ·rename_i ch1 H1 v h1
   split at h
   ·rename_i ht
    split at h
    ·rename_i hid
     split at h
     ·rename_i ch2 H2 l2 h2
      cases h
      have ht' : aiR v ≤ n + 1 := Nat.le_of_ble_eq_true ht
      have hid' : id < n := Nat.le_of_ble_eq_true hid
      obtain ⟨ρ1,⟨a1,e1⟩,s1,c1⟩ := atK h1 (fun hc ρ' =>hX (by rw [hc]; rfl) _ ρ') s
      obtain ⟨ρ2,⟨a2,e2⟩,s2,hl,c2⟩ := arN (fun hc ρ ρ' ha =>hX (by rw [hc,Bool.or_true]) _ _ (ha.le (Nat.le_succ n))) h2 s1
      refine ⟨ρ2,⟨a1.trans a2 (Nat.le_succ n),fun hc =>?_⟩,s2,by simp [hl],fun j u hj =>?_⟩
      ·simp only [Bool.or_eq_false_iff] at hc
       rw [e2 hc.2,e1 hc.1]
      ·cases j with
       | zero =>
        simp only [aag,List.getElem?_cons_zero,Option.some.injEq] at hj
        rw [← hj,← abd a2 v ht']
        exact c1
       | succ j =>
        simp only [aag,List.getElem?_cons_succ] at hj
        have := c2 j u hj
        rw [← (a1 id hid').1] at this
        rw [← this]; congr 2; omega
     ·cases h
    ·cases h
   ·cases h
  ·cases h
end
section
variable (K : KT)
def aIb (P : Program) (R : aa3) (n : Nat) (Z H : KT.H K) (T : TypeId) (x : V) : Option (Nat × KT.H K × V) :=
 match x with
 | .ptr id o =>match ae6 P T with
  | some none =>match opn K n H id o with
   | some (false,H',v) =>some (n,H',v)
   | some (true,H',v) =>match Nat.ble (avN R) n && Nat.ble (afB Z) n with
    | true =>some (n + 1,H',v)
    | false =>none
   | none =>none
  | some (some k) =>match aGJ K k n H id o with
   | some (false,H',l) =>some (n,H',.agg l)
   | some (true,H',l) =>match Nat.ble (avN R) n && Nat.ble (afB Z) n with
    | true =>some (n + k,H',.agg l)
    | false =>none
   | none =>none
  | none =>none
 | _ =>none
end
section
variable {K : KT} {P : Program} {nt n B : Nat} {W : World} {R : aa3} {Z H : KT.H K} {nx : Nat → KT.H K → V → Prop}
theorem ajh {w : World} {b o : Nat} {T : TypeId} {v : Value} (ht : ae6 P T = some none) (h : w.cell? ⟨b,o,none⟩ = some v) : (Instr.loadAt T (.pointer (some ⟨b,o,none⟩))).run P w = .ok v w :=
 ajU (us := [v]) ht rfl (fun j u hj =>by
  cases j with
  | zero =>simp at hj; subst hj; exact h
  | succ j =>simp at hj) rfl
theorem atd {o : Oper} {T : TypeId} {x : Operand} {u v : V} {n' : Nat} {H' : KT.H K} (ho : o.op = .load T x) (hx : evO R x = some u) (h : aIb K P R n Z H T u = some (n',H',v)) (hn : nx n' H' v) : aet K P nt B W o R n Z H nx := fun F ρ a w s =>by
 obtain ⟨d,op,ty,ps,af,g⟩ := o
 simp only at ho
 subst ho
 have ex := (aaL (ρ := ρ) hx).eval s.regs
 unfold aIb at h
 split at h
 ·rename_i id o'
  have fin : ∀ (ρ' : Env) (vv : V) (nn : Nat) (HH : KT.H K),n ≤ nn → aay n ρ ρ' → dR ρ' R = dR ρ R → Sat B w (dS K ρ' Z HH F) → nx nn HH vv → (Instr.loadAt T (.pointer (some ⟨(ρ.p id).1,(ρ.p id).2 + o',none⟩))).run P w = .ok (aaw ρ' vv) w →
    ahX P (fun (x : Nx K) w' =>(aay n ρ x.ρ ∧ n ≤ x.n ∧ dR x.ρ R = dR ρ R ∧ nx x.n x.H x.v) ∧ Cls B W (dS K x.ρ Z x.H F) w') (fun x =>aaw x.ρ x.v) ((execOp a.eval ⟨d,.load T x,ty,ps,af,g⟩).run P w) := by
   intro ρ' vv nn HH h1 h2 h3 h4 h5 h6
   have : (execOp a.eval ⟨d,.load T x,ty,ps,af,g⟩).run P w = .ok (.value (aaw ρ' vv)) w := by
    simp only [execOp,ex,aaw]
    rw [aaa h6]; rfl
   rw [this]
   exact ⟨⟨ρ',nn,HH,vv⟩,rfl,⟨h2,h1,h3,h5⟩,s.below,s.lo,h4⟩
  split at h
  ·rename_i hT
   split at h
   ·rename_i h1
    cases h
    obtain ⟨ρ',⟨ha,he⟩,s1,hc⟩ := atK (X := tl K Z F) h1 (fun e =>by cases e) s.sat
    obtain rfl := he rfl
    exact fin _ _ _ _ (Nat.le_refl _) ha rfl s1 hn (ajh hT hc)
   ·rename_i h1
    split at h
    ·rename_i hR
     cases h
     simp only [Bool.and_eq_true] at hR
     obtain ⟨ρ',⟨ha,he⟩,s1,hc⟩ := atK (X := tl K Z F) h1 (fun _ ρ' ha =>acX (Nat.le_of_ble_eq_true hR.2) ha) s.sat
     exact fin _ _ _ _ (Nat.le_succ _) ha (abS ha _ (Nat.le_of_ble_eq_true hR.1)).symm s1 hn (ajh hT hc)
    ·cases h
   ·cases h
  ·rename_i k hT
   split at h
   ·rename_i h1
    cases h
    obtain ⟨ρ',⟨ha,he⟩,s1,hl,hc⟩ := arN (X := tl K Z F) (fun e =>by cases e) h1 s.sat
    obtain rfl := he rfl
    exact fin _ _ _ _ (Nat.le_refl _) ha rfl s1 hn (ajU hT (by rw [aaU]; simpa using hl) hc rfl)
   ·rename_i h1
    split at h
    ·rename_i hR
     cases h
     simp only [Bool.and_eq_true] at hR
     obtain ⟨ρ',⟨ha,he⟩,s1,hl,hc⟩ := arN (X := tl K Z F) (fun _ _ _ ha =>acX (Nat.le_of_ble_eq_true hR.2) ha) h1 s.sat
     exact fin _ _ _ _ (Nat.le_add_right ..) ha (abS ha _ (Nat.le_of_ble_eq_true hR.1)).symm s1 hn (ajU hT (by rw [aaU]; simpa using hl) hc rfl)
    ·cases h
   ·cases h
  ·cases h
 ·cases h
end
def aaE : V → List V
 | .agg l =>l
 | v =>[v]
section
variable {K : KT}
def scV (H : KT.H K) : V → Bool
 | .agg _ =>false
 | .tup _ =>false
 | .c v =>adA v
 | .mc id =>match get H id with
  | some (.mach _) =>true
  | some (.mp ..) =>true
  | _ =>false
 | _ =>true
def aAz {T : Nat → Type} {M : Type} (fs : List (Fd T M)) (o : Nat) (us : List V) : List (Fd T M) := fs.take o ++ us.map .v ++ fs.drop (o + us.length)
theorem ase {ρ : Env} : ∀ {us : List V} {o : Nat} {fs : List (Fd K.T K.M)} {vs : List Value} {L : List aad} {h : Hp},o + us.length ≤ fs.length → fs.length = vs.length → abW (fsS (fS K ρ) fs vs ++ L) h →
  abW (fsS (fS K ρ) (aAz fs o us) (vs.take o ++ aag ρ us ++ vs.drop (o + us.length)) ++ L) h
 | us,o + 1,[],vs,L,h,h1,_,_ =>by simp at h1
 | us,o + 1,f :: fs,[],L,h,_,h2,_ =>by simp at h2
 | us,o + 1,f :: fs,v :: vs,L,h,h1,h2,s =>by
  have e1 : aAz (f :: fs) (o + 1) us = f :: aAz fs o us := by simp [aAz,Nat.add_right_comm o 1]
  have e2 : (v :: vs).take (o + 1) ++ aag ρ us ++ (v :: vs).drop (o + 1 + us.length) = v :: (vs.take o ++ aag ρ us ++ vs.drop (o + us.length)) := by simp [Nat.add_right_comm o 1]
  rw [e1,e2]
  simp only [fsS,List.cons_append] at s ⊢
  exact abq (fun k hk =>ase (by simp at h1; omega) (by simpa using h2) hk) s
 | [],0,fs,vs,L,h,_,_,s =>by simpa [aAz,aag] using s
 | u :: us,0,[],vs,L,h,h1,_,_ =>by simp at h1
 | u :: us,0,f :: fs,[],L,h,_,h2,_ =>by simp at h2
 | u :: us,0,f :: fs,v :: vs,L,h,h1,h2,s =>by
  have e1 : aAz (f :: fs) 0 (u :: us) = .v u :: aAz fs 0 us := by simp [aAz]
  have e2 : (v :: vs).take 0 ++ aag ρ (u :: us) ++ (v :: vs).drop (0 + (u :: us).length) = aaw ρ u :: (vs.take 0 ++ aag ρ us ++ vs.drop (0 + us.length)) := by simp [aag]
  rw [e1,e2]
  simp only [fsS,List.cons_append] at s ⊢
  have s1 := Ent.drop h s
  exact apR (p := aaw ρ u = aaw ρ u) rfl h (ase (us := us) (o := 0) (by simp at h1 ⊢; omega) (by simpa using h2) s1)
theorem ays {ρ : Env} {H : KT.H K} {X : List aad} {B : Nat} {w : World} {v : V} (h : scV H v = true) (s : Sat B w (dH K ρ H ++ X)) : adA (aaw ρ v) = true := by
 cases v <;> first | rfl | (cases h; done) | exact h | skip
 rename_i id
 simp only [scV] at h
 split at h
 ·rename_i m hg
  obtain ⟨hh,Hh,k1,k2,a,e,hA,hL⟩ := s.imp (aaR (ρ := ρ) hg)
  have hA' : pcS K (.mach m) (ρ.v id) k1 := hA
  rw [aaH] at hA'
  simp only [pcW] at hA'
  simp only [aaw]
  split at hA'
  ·rw [hA']; rfl
  ·obtain ⟨q,e',_⟩ := hA'; rw [e']; rfl
 ·rename_i c ag m hg
  obtain ⟨hh,Hh,k1,k2,a,e,hA,hL⟩ := s.imp (aaR (ρ := ρ) hg)
  have hA' : pcS K (.mp c ag m) (ρ.v id) k1 := hA
  rw [aaH] at hA'
  obtain ⟨b,e',_⟩ := hA'
  simp only [aaw]
  rw [e']; rfl
 ·cases h
theorem atk {v : Value} (h : adA v = true) : v.cells.toList = [v] := by cases v <;> simp [adA] at h <;> rfl
theorem al6 {ρ : Env} {H : KT.H K} {X : List aad} {B : Nat} {w : World} {v : V} (h : (aaE v).all (scV H) = true) (s : Sat B w (dH K ρ H ++ X)) : (aaw ρ v).cells.toList = aag ρ (aaE v) ∧ (aag ρ (aaE v)).all adA = true := by
 have h2 : (aag ρ (aaE v)).all adA = true := by
  rw [aaU,List.all_map,List.all_eq_true]
  intro x hx
  exact ays (List.all_eq_true.1 h x hx) s
 refine ⟨?_,h2⟩
 cases v with
 | agg l =>simp [aaw,Value.cells,aaE]
 | _ =>exact atk (by simpa [aaE,aag] using h2)
end
section
variable (K : KT)
def aIa (P : Program) (H : KT.H K) (T : TypeId) (x u : V) : Option (KT.H K) :=
 match x with
 | .ptr id o =>match get H id with
  | some (.cells fs) =>match Nat.beq (P.cellsOf T) (aaE u).length && Nat.blt 0 (aaE u).length && Nat.ble (o + (aaE u).length) fs.length && (aaE u).all (scV H) with
   | true =>some ((id,.cells (aAz fs o (aaE u))) :: del H id)
   | false =>none
  | _ =>none
 | _ =>none
end
section
variable {K : KT} {P : Program} {nt n B : Nat} {W : World} {R : aa3} {Z H : KT.H K} {nx : Nat → KT.H K → V → Prop}
theorem aqw {o : Oper} {T : TypeId} {x y : Operand} {u v : V} {H' : KT.H K} (ho : o.op = .store T x y) (hx : evO R x = some u) (hy : evO R y = some v) (h : aIa K P H T u v = some H') (hn : nx n H' (.c undef)) : aet K P nt B W o R n Z H nx := fun F ρ a w s =>by
 obtain ⟨d,op,ty,ps,af,g⟩ := o
 simp only at ho
 subst ho
 have ex := (aaL (ρ := ρ) hx).eval s.regs
 have ey := (aaL (ρ := ρ) hy).eval s.regs
 unfold aIa at h
 split at h
 ·rename_i id o'
  split at h
  ·rename_i fs hg
   split at h
   ·rename_i hB
    cases h
    simp only [Bool.and_eq_true] at hB
    obtain ⟨⟨⟨b1,b2⟩,b3⟩,b4⟩ := hB
    have b1' := Nat.eq_of_beq_eq_true b1
    have b2' : 0 < (aaE v).length := Nat.le_of_ble_eq_true b2
    have b3' := Nat.le_of_ble_eq_true b3
    obtain ⟨hcl,hsc⟩ := al6 b4 s.sat
    obtain ⟨vs,s2⟩ := ag7 (s.sat.imp (aaR (ρ := ρ) hg))
    have hl := aiX s2
    have hlen : (aag ρ (aaE v)).length = (aaE v).length := by rw [aaU]; simp
    obtain ⟨w',hr,c1,c2,c3⟩ := anm (P := P) (T := T) (v := aaw ρ v) (W := W) (o' := (ρ.p id).2 + o') (i := o') (k := (aaE v).length) (us := aag ρ (aaE v)) s2 s.below s.lo rfl b1' hlen b2' hcl hsc (by omega)
    have : (execOp a.eval ⟨d,.store T x y,ty,ps,af,g⟩).run P w = .ok .skip w' := by
     simp only [execOp,ex,ey,aaw,Instr.storeAt,Instr.sureAddr]
     rw [aaa (a := ()) (w' := w') (by rw [aaa (a := (⟨(ρ.p id).1,(ρ.p id).2 + o',none⟩ : Addr)) (w' := w) rfl]; exact hr)]
     rfl
    rw [this]
    refine ⟨⟨ρ,n,_,.c undef⟩,rfl,⟨aay.refl _ _,Nat.le_refl _,rfl,hn⟩,c1,c2,c3.imp fun h hk =>?_⟩
    obtain ⟨k1,k2,a',e',hp,hq⟩ := hk
    have hq2 := ase (us := aaE v) (o := o') b3' hl hq
    have s6 : abW ((pts (ρ.p id).1 (ρ.p id).2 (vs.take o' ++ aag ρ (aaE v) ++ vs.drop (o' + (aaE v).length)) :: fsS (fS K ρ) (aAz fs o' (aaE v)) (vs.take o' ++ aag ρ (aaE v) ++ vs.drop (o' + (aaE v).length))) ++ (dH K ρ (del H id) ++ tl K Z F ρ)) h := ⟨k1,k2,a',e',hp,hq2⟩
    obtain ⟨j1,j2,a'',e'',g1,g2⟩ := aao.1 s6
    exact ⟨j1,j2,a'',e'',⟨_,g1⟩,g2⟩
   ·cases h
  ·cases h
 ·cases h
end
section
variable (K : KT)
def abU (R : aa3) (n : Nat) (Z H : KT.H K) : Bool := Nat.ble (avN R) n && Nat.ble (afB Z) n && Nat.ble (afB H) n
def aFO (R : aa3) (n : Nat) (Z H : KT.H K) (vs : List V) : Option (Nat × KT.H K × V) :=
 match abU K R n Z H && Nat.ble (ahY vs) n with
 | true =>some (n + 1,(n,.cells (vs.map .v)) :: H,.ptr n 0)
 | false =>none
def auD (P : Program) (T : TypeId) : Option (List V) := (avG P T).map fun z =>z.cells.toList.map aAE
end
section
variable {K : KT} {P : Program} {nt n B : Nat} {W : World} {R : aa3} {Z H : KT.H K} {nx : Nat → KT.H K → V → Prop}
theorem aid {ρ : Env} : ∀ {vs : List V} {L : List aad} {h : Hp},abW L h → abW (fsS (fS K ρ) (vs.map .v) (aag ρ vs) ++ L) h
 | [],_,_,s =>s
 | v :: vs,L,h,s =>apR (p := aaw ρ v = aaw ρ v) rfl h (aid (vs := vs) s)
theorem azk {o : Oper} {vs : List V} {n' : Nat} {H' : KT.H K} {v : V} (h : aFO K R n Z H vs = some (n',H',v)) (hn : nx n' H' v)
  (ho : ∀ F ρ a w,Sta nt B W (dR ρ R) (dS K ρ Z H F) a w → ∃ u T,(execOp a.eval o).run P w = .ok (.value (.pointer (some ⟨w.heap.size,0,none⟩))) (w.alloc (.cells u T)) ∧ u.toList = aag ρ vs) : aet K P nt B W o R n Z H nx := fun F ρ a w s =>by
 unfold aFO at h
 split at h
 ·rename_i hB
  cases h
  simp only [abU,Bool.and_eq_true] at hB
  obtain ⟨⟨⟨b1,b0⟩,b2⟩,b3⟩ := hB
  have b1' := Nat.le_of_ble_eq_true b1
  have b0' := Nat.le_of_ble_eq_true b0
  have b2' := Nat.le_of_ble_eq_true b2
  have b3' := Nat.le_of_ble_eq_true b3
  obtain ⟨u,T,hr,hu⟩ := ho F ρ a w s
  rw [hr]
  have ha := ahU ρ n (w.heap.size,0)
  refine ⟨⟨ρ.setP n (w.heap.size,0),n + 1,_,.ptr n 0⟩,by simp [aaw,Env.setP],⟨ha,Nat.le_succ _,(abS ha R b1').symm,hn⟩,aeH s.below s.lo _,by simpa using Nat.le_succ_of_le s.lo,?_⟩
  have s1 := s.sat.fresh (cs := u) (T := T) s.lo
  refine s1.imp fun h hk =>?_
  obtain ⟨k1,k2,a',e',hp,hq⟩ := hk
  rw [hu,ad5 ha vs b3'] at hp
  have hq' : abW (dS K (ρ.setP n (w.heap.size,0)) Z H F) k2 := by unfold dS; rw [← ab3 ha H b2',← acX b0' ha]; exact hq
  have s6 : abW ((pts w.heap.size 0 (aag (ρ.setP n (w.heap.size,0)) vs) :: fsS (fS K (ρ.setP n (w.heap.size,0))) (vs.map .v) (aag (ρ.setP n (w.heap.size,0)) vs)) ++ dS K (ρ.setP n (w.heap.size,0)) Z H F) h := ⟨k1,k2,a',e',hp,aid hq'⟩
  obtain ⟨j1,j2,a'',e'',g1,g2⟩ := aao.1 s6
  exact ⟨j1,j2,a'',e'',⟨_,by simpa [Env.setP] using g1⟩,g2⟩
 ·cases h
theorem axk {o : Oper} {T : TypeId} {vs : List V} {n' : Nat} {H' : KT.H K} {v : V} (ho : o.op = .alloc T) (hz : auD P T = some vs) (h : aFO K R n Z H vs = some (n',H',v)) (hn : nx n' H' v) : aet K P nt B W o R n Z H nx := by
 refine azk h hn fun F ρ a w s =>?_
 obtain ⟨d,op,ty,ps,af,g⟩ := o
 simp only at ho
 subst ho
 simp only [auD,Option.map_eq_some_iff] at hz
 obtain ⟨z,hz,rfl⟩ := hz
 refine ⟨z.cells,T,?_,?_⟩
 ·simp only [execOp,Instr.alloc]
  rw [aaa (a := Value.pointer (some ⟨w.heap.size,0,none⟩)) (w' := w.alloc (.cells z.cells T)) (by rw [aaa (akU hz)]; exact aaa (aqN T z))]
  rfl
 ·rw [aaU,List.map_map]
  have : (aaw ρ ∘ aAE) = id := by funext x; exact aik ρ x
  rw [this,List.map_id]
theorem aAZ {o : Oper} {T : TypeId} {x : Operand} {u : V} {n' : Nat} {H' : KT.H K} {v : V} (ho : o.op = .box T x) (hx : evO R x = some u) (hs : (aaE u).all (scV H) = true) (h : aFO K R n Z H (aaE u) = some (n',H',v)) (hn : nx n' H' v) : aet K P nt B W o R n Z H nx := by
 refine azk h hn fun F ρ a w s =>?_
 obtain ⟨d,op,ty,ps,af,g⟩ := o
 simp only at ho
 subst ho
 have ex := (aaL (ρ := ρ) hx).eval s.regs
 refine ⟨(aaw ρ u).cells,T,?_,(al6 hs s.sat).1⟩
 simp only [execOp,ex,Instr.box]
 rw [aaa (a := Value.pointer (some ⟨w.heap.size,0,none⟩)) (w' := w.alloc (.cells (aaw ρ u).cells T)) (by rw [aaa (aqN T _)]; rfl)]
 rfl
end
def am2 {T : Nat → Type} (c c' : Nat) (xs : List (T c)) : Option (List (T c')) := if h : c = c' then some (h ▸ xs) else none
def aAa {T : Nat → Type} (c c' : Nat) (xs : List (List (T c))) : Option (List (List (T c'))) := if h : c = c' then some (h ▸ xs) else none
theorem az9 {T : Nat → Type} {c c' : Nat} {xs : List (List (T c))} {ys : List (List (T c'))} (h : aAa c c' xs = some ys) : ∃ e : c = c',ys = e ▸ xs := by
 unfold aAa at h
 split at h
 ·rename_i e; cases h; exact ⟨e,rfl⟩
 ·cases h
theorem agA {T : Nat → Type} {c c' : Nat} {xs : List (T c)} {ys : List (T c')} (h : am2 c c' xs = some ys) : ∃ e : c = c',ys = e ▸ xs := by
 unfold am2 at h
 split at h
 ·rename_i e; cases h; exact ⟨e,rfl⟩
 ·cases h
def aFE {T : Nat → Type} (c c' : Nat) (m : Int → Option (T c)) : Option (Int → Option (T c')) := if h : c = c' then some (h ▸ m) else none
theorem aCv {T : Nat → Type} {c c' : Nat} {m : Int → Option (T c)} {m' : Int → Option (T c')} (h : aFE c c' m = some m') : ∃ e : c = c',m' = e ▸ m := by
 unfold aFE at h
 split at h
 ·rename_i e; cases h; exact ⟨e,rfl⟩
 ·cases h
def al8 {α β : Type} (h : α = β) (xs : List α) : List β := (congrArg List h) ▸ xs
theorem ae5 {α β : Type} (h : α = β) (xs : List α) : al8 h xs = xs.map (fun x =>h ▸ x) := by subst h; simp [al8]
def oB : V → Bool
 | .ifc _ _ =>true
 | .ptr _ _ =>true
 | .sl _ =>true
 | .c u =>adA u
 | _ =>false
theorem aIH {ρ : Env} {v : V} (h : oB v = true) : adA (aaw ρ v) = true := by
 cases v <;> first | rfl | (cases h; done) | exact h
section
variable (K : KT)
def aIm (own : KT.H K → (c : Nat) → List (Fd K.T K.M) → Option (K.T c × KT.H K)) (H : KT.H K) (e : Fl K.T K.M) (v : V) : Option (Fl K.T K.M × KT.H K) :=
 match e with
 | .i k _ =>match ajX v with
  | some (k',x,_) =>match arm k' k with
   | true =>some (.i k x,H)
   | false =>none
  | none =>none
 | .b _ =>match asH v with
  | some x =>some (.b x,H)
  | none =>none
 | .c _ =>none
 | .ro c _ =>match v with
  | .sl id =>match get H id with
   | some (.ro c' xs) =>match am2 c' c xs with
    | some ys =>some (.ro c ys,H)
    | none =>none
   | some (.row c' xs) =>match am2 c' c xs with
    | some ys =>match K.pl c' && Nat.blt 0 (K.sz c') with
     | true =>some (.ro c ys,(id,.ro c' xs) :: del H id)
     | false =>none
    | none =>none
   | _ =>none
  | .c (.slice none 0 0) =>some (.ro c [],H)
  | _ =>none
 | .rr c _ =>match v with
  | .sl id =>match get H id with
   | some (.rr c' xs) =>match aAa c' c xs with
    | some ys =>some (.rr c ys,H)
    | none =>none
   | some (.row c' xs) =>match K.ls c c' with
    | some h =>some (.rr c (al8 h.down xs),(id,.rr c (al8 h.down xs)) :: del H id)
    | none =>none
   | _ =>none
  | .c (.slice none 0 0) =>some (.rr c [],H)
  | _ =>none
 | .row c _ =>match v with
  | .sl id =>match get H id with
   | some (.row c' xs) =>match am2 c' c xs with
    | some ys =>some (.row c ys,del H id)
    | none =>none
   | some (.hole c' xs i o u) =>match am2 c' c xs with
    | some ys =>match (K.vw c (atL (K.df c) ys i))[o]? with
     | some (.own c2 _) =>match u with
      | .ptr id2 p =>match p with
       | 0 =>match get (del H id) id2 with
        | some (.cells fs) =>match own (del (del H id) id2) c2 fs with
         | some (y,H') =>match K.bk c ((K.vw c (atL (K.df c) ys i)).set o (.own c2 y)) with
          | some x' =>some (.row c (ys.set i.toNat x'),H')
          | none =>none
         | none =>none
        | _ =>none
       | _ =>none
      | _ =>none
     | some (.mach _) =>match u with
      | .mc id2 =>match get (del H id) id2 with
       | some (.mach m) =>match K.bk c ((K.vw c (atL (K.df c) ys i)).set o (.mach m)) with
        | some x' =>some (.row c (ys.set i.toNat x'),del (del H id) id2)
        | none =>none
       | _ =>none
      | _ =>none
     | _ =>none
    | none =>none
   | _ =>none
  | .c (.slice none 0 0) =>some (.row c [],H)
  | _ =>none
 | .own c _ =>match v with
  | .ptr id o =>match o with
   | 0 =>match get H id with
    | some (.cells fs) =>match own (del H id) c fs with
     | some (x,H') =>some (.own c x,H')
     | none =>none
    | _ =>none
   | _ =>none
  | _ =>none
 | .o =>match oB v with
  | true =>some (.o,H)
  | false =>none
 | .mp c ag _ =>match v with
  | .mc id =>match get H id with
   | some (.mp c' ag' m) =>match ag' == ag with
    | true =>match aFE c' c m with
     | some m' =>some (.mp c ag m',del H id)
     | none =>none
    | false =>none
   | _ =>none
  | _ =>none
 | .mach _ =>match v with
  | .mc id =>match get H id with
   | some (.mach m) =>some (.mach m,del H id)
   | _ =>none
  | .c .nilIface =>some (.mach K.nilM,H)
  | .ifc t v =>match v with
   | .ptr id o =>match o with
    | 0 =>match K.kd t with
     | some c =>match get H id with
      | some (.cells fs) =>match own (del H id) c fs with
       | some (x,H') =>match K.mkM c x with
        | some m =>some (.mach m,H')
        | none =>none
       | none =>none
      | _ =>none
     | none =>none
    | _ =>none
   | _ =>none
  | _ =>none
def auC (a : KT.H K → Fl K.T K.M → V → Option (Fl K.T K.M × KT.H K)) : KT.H K → List (Fl K.T K.M) → List (Fd K.T K.M) → Option (List (Fl K.T K.M) × KT.H K)
 | H,[],[] =>some ([],H)
 | H,e :: es,.f x :: fs =>match auC a H es fs with
  | some (l,H') =>some (x :: l,H')
  | none =>none
 | H,e :: es,.v v :: fs =>match a H e v with
  | some (x,H') =>match auC a H' es fs with
   | some (l,H'') =>some (x :: l,H'')
   | none =>none
  | none =>none
 | _,_,_ =>none
def aIo : Nat → KT.H K → (c : Nat) → List (Fd K.T K.M) → Option (K.T c × KT.H K)
 | 0,_,_,_ =>none
 | f + 1,H,c,fs =>match auC K (aIm K (aIo f)) H (K.vw c (K.df c)) fs with
  | some (l,H') =>match K.bk c l with
   | some x =>some (x,H')
   | none =>none
  | none =>none
def depth : Nat := 9
abbrev asm : KT.H K → Fl K.T K.M → V → Option (Fl K.T K.M × KT.H K) := aIm K (aIo K depth)
end
section
variable {K : KT} {ρ : Env}
theorem alm : ∀ {l : List (Fl K.T K.M)} {vs : List Value} {L : List aad} {h : Hp},ai2 l = true → abW (fsS (pcS K) l vs ++ L) h → vs = l.map flV ∧ abW L h
 | [],[],_,_,_,s =>⟨rfl,s⟩
 | f :: l,v :: vs,L,h,hp,s =>by
  obtain ⟨k1,k2,a,e,hA,hL⟩ := s
  have hd := Ent.drop h (show abW (pcS K f v :: (fsS (pcS K) l vs ++ L)) h from ⟨k1,k2,a,e,hA,hL⟩)
  rw [aaH] at hA
  cases f <;> simp only [ai2,Bool.false_eq_true] at hp
  ·obtain ⟨h1,h2⟩ := alm hp hd
   exact ⟨by rw [List.map_cons,← h1]; congr 1,h2⟩
  ·obtain ⟨h1,h2⟩ := alm hp hd
   exact ⟨by rw [List.map_cons,← h1]; congr 1,h2⟩
 | [],_ :: _,_,_,_,⟨_,_,_,_,hf,_⟩ =>hf.elim
 | _ :: _,[],_,_,_,⟨_,_,_,_,hf,_⟩ =>hf.elim
theorem aqG {c : Nat} (hc : K.pl c = true) : ∀ {xs : List (K.T c)} {vss : List (List Value)} {L : List aad} {h : Hp},abW (act K (pcS K) c xs vss ++ L) h → vss = xs.map (afa K c) ∧ abW L h
 | [],[],_,_,s =>⟨rfl,s⟩
 | x :: xs,vs :: vss,L,h,s =>by
  have s' : abW (fsS (pcS K) (K.vw c x) vs ++ (act K (pcS K) c xs vss ++ L)) h := by simpa [act] using s
  obtain ⟨h1,h2⟩ := alm (K.pl_ok c hc x) s'
  obtain ⟨h3,h4⟩ := aqG hc h2
  exact ⟨by rw [List.map_cons,← h3,h1]; rfl,h4⟩
 | [],_ :: _,_,_,⟨_,_,_,_,hf,_⟩ =>hf.elim
 | _ :: _,[],_,_,⟨_,_,_,_,hf,_⟩ =>hf.elim
theorem aiW {B : Nat} {w : World} {H : KT.H K} {X : List aad} {id c : Nat} {xs : List (K.T c)} (s : Sat B w (dH K ρ H ++ X)) (h : get H id = some (.row c xs) ∨ get H id = some (.ro c xs)) : aaw ρ (.sl id) = .slice (ρ.s id).a xs.length (ρ.s id).c := by
 rcases h with h | h
 ·rw [aaw,aia (H := H) (m := xs.length) (by unfold azp; rw [h]) s]
 ·rw [aaw,aia (H := H) (m := xs.length) (by unfold azp; rw [h]) s]
theorem ayA {B : Nat} {w : World} {c : Nat} {xs : List (K.T c)} {A : Option Addr} {cap : Nat} {L : List aad} (hc : K.pl c = true) (hz : 0 < K.sz c) (s : Sat B w (rwS K c xs A cap :: L)) : Sat B w (roS (afa K c) (K.sz c) A cap xs :: L) := by
 obtain ⟨h,Hh,k1,k2,a,e,h1,hL⟩ := s
 rw [adq] at h1
 obtain ⟨vss,q1,q2,a',e',g1,g2⟩ := h1
 have g3 : abW (act K (pcS K) c xs vss ++ []) q2 := by simpa using g2
 obtain ⟨rfl,_⟩ := aqG hc g3
 have s2 : Sat B w (afb A xs.length cap (K.sz c) (xs.flatMap (afa K c)) :: L) := by
  refine ⟨h,Hh,k1,k2,a,e,?_,hL⟩
  rw [← List.flatMap_def] at g1
  rw [e']
  obtain ⟨r1,r2,r3,r4⟩ := g1
  refine ⟨r1,r2,r3,r4.imp id ?_⟩
  rintro ⟨b,o,spare,hA,hs,hp⟩
  exact ⟨b,o,spare,hA,hs,fun i v hi =>by unfold ada; rw [hp i v hi]⟩
 exact atp hz (fun x =>by unfold afa; rw [List.length_map,K.sz_ok]) rfl B w s2
theorem atn {B : Nat} {w : World} {c c' : Nat} {hc : PLift (K.T c' = List (K.T c))} (h : K.ls c c' = some hc) : ∀ {xs : List (K.T c')} {vss : List (List Value)} {L : List aad},Sat B w (act K (pcS K) c' xs vss ++ L) →
  ∃ ps : List (Option Addr × Nat),(vss.flatten.length = xs.length ∧ ∀ (i : Nat) ys,(al8 hc.down xs)[i]? = some ys → ∃ a,ps[i]? = some a ∧ vss.flatten[i]? = some (.slice a.1 ys.length a.2)) ∧
   Sat B w (ae8 (fun u =>∀ (i : Nat) ys a,(al8 hc.down xs)[i]? = some ys → ps[i]? = some a → Sl (afa K c) (K.sz c) u u.heap.size a.1 ys ∧ ys.length ≤ a.2) :: L)
 | [],[],L,s =>⟨[],⟨rfl,fun i ys hi =>by rw [ae5] at hi; cases hi⟩,s.imp fun k hk =>(apu.trans (Ent.cons (ad2 fun _ _ i ys a hi =>by rw [ae5] at hi; cases hi) Ent.refl)) k hk⟩
 | x :: xs,vs :: vss,L,s =>by
  have s' : Sat B w (fsS (pcS K) (K.vw c' x) vs ++ (act K (pcS K) c' xs vss ++ L)) := s.imp fun k hk =>by simpa [act] using hk
  have hro : ∃ v A cap,vs = [v] ∧ v = .slice A (hc.down ▸ x : List (K.T c)).length cap ∧ Sat B w (roS (afa K c) (K.sz c) A cap (hc.down ▸ x) :: (act K (pcS K) c' xs vss ++ L)) := by
   rcases K.ls_ok _ _ _ h x with hv | ⟨hv,hpl,hsz⟩
   ·rw [hv] at s'
    match vs,s' with
    | [],s' =>obtain ⟨_,_,_,_,_,_,hf,_⟩ := s'; exact hf.elim
    | _ :: _ :: _,s' =>obtain ⟨_,_,_,_,_,_,_,_,_,_,_,hf,_⟩ := s'; exact hf.elim
    | [v],s' =>
     obtain ⟨k,Hk,k1,k2,a,e,h1,h2⟩ := (show Sat B w (pcS K (.ro c (hc.down ▸ x)) v :: (act K (pcS K) c' xs vss ++ L)) from s')
     rw [aaH] at h1
     obtain ⟨A,cap,hv',hro⟩ := h1
     exact ⟨v,A,cap,rfl,hv',k,Hk,k1,k2,a,e,hro,h2⟩
   ·rw [hv] at s'
    match vs,s' with
    | [],s' =>obtain ⟨_,_,_,_,_,_,hf,_⟩ := s'; exact hf.elim
    | _ :: _ :: _,s' =>obtain ⟨_,_,_,_,_,_,_,_,_,_,_,hf,_⟩ := s'; exact hf.elim
    | [v],s' =>
     obtain ⟨k,Hk,k1,k2,a,e,h1,h2⟩ := (show Sat B w (pcS K (.row c (hc.down ▸ x)) v :: (act K (pcS K) c' xs vss ++ L)) from s')
     rw [aaH] at h1
     obtain ⟨A,cap,hv',hro⟩ := h1
     exact ⟨v,A,cap,rfl,hv',ayA hpl hsz ⟨k,Hk,k1,k2,a,e,hro,h2⟩⟩
  obtain ⟨v,A,cap,rfl,rfl,s0⟩ := hro
  have s1 : Sat B w (act K (pcS K) c' xs vss ++ (roS (afa K c) (K.sz c) A cap (hc.down ▸ x) :: L)) := s0.imp fun k hk =>abF (List.perm_middle (l₁ := act K (pcS K) c' xs vss)).symm hk
  obtain ⟨ps,⟨g1,g2⟩,s2⟩ := atn h s1
  refine ⟨(A,cap) :: ps,⟨by simp [g1],fun i ys hi =>?_⟩,?_⟩
  ·rw [ae5] at hi g2
   cases i with
   | zero =>simp at hi; subst hi; exact ⟨_,rfl,rfl⟩
   | succ i =>exact g2 i ys (by simpa using hi)
  ·refine s2.imp fun k hk =>aaP (ad2 fun u hu i ys a hi ha =>?_) (awx k hk)
   rw [ae5] at hi hu
   cases i with
   | zero =>simp at hi ha; subst hi ha; exact hu.2
   | succ i =>exact hu.1 i ys a (by simpa using hi) (by simpa using ha)
 | [],_ :: _,_,⟨_,_,_,_,_,_,hf,_⟩ =>hf.elim
 | _ :: _,[],_,⟨_,_,_,_,_,_,hf,_⟩ =>hf.elim
theorem aGv {B : Nat} {w : World} {c c' : Nat} {hc : PLift (K.T c' = List (K.T c))} (h : K.ls c c' = some hc) {xs : List (K.T c')} {A : Option Addr} {cap : Nat} {L : List aad} (s : Sat B w (rwS K c' xs A cap :: L)) :
  ∃ ps : List (Option Addr × Nat),Sat B w (ae8 (fun u =>((al8 hc.down xs).length ≤ 9223372036854775807 ∧ (al8 hc.down xs).length ≤ cap) ∧
   ∀ (i : Nat) ys,(al8 hc.down xs)[i]? = some ys → ∃ a,ps[i]? = some a ∧ (Sl (afa K c) (K.sz c) u u.heap.size a.1 ys ∧ ys.length ≤ a.2) ∧ ∃ b o,A = some ⟨b,o,none⟩ ∧ b < u.heap.size ∧ u.cell? ⟨b,o + i,none⟩ = some (.slice a.1 ys.length a.2)) :: L) := by
 obtain ⟨k,Hk,k1,k2,a,e,h1,hL⟩ := s
 rw [adq] at h1
 obtain ⟨vss,q1,q2,a',e',g1,g2⟩ := h1
 have hs0 : abW ((afb A xs.length cap (K.sz c') vss.flatten :: act K (pcS K) c' xs vss) ++ L) k := aao.2 ⟨k1,k2,a,e,⟨q1,q2,a',e',g1,g2⟩,hL⟩
 have hs1 : abW (act K (pcS K) c' xs vss ++ (afb A xs.length cap (K.sz c') vss.flatten :: L)) k := abF (List.perm_middle (l₁ := act K (pcS K) c' xs vss)).symm hs0
 obtain ⟨ps,⟨f1,f2⟩,s2⟩ := atn h ⟨k,Hk,hs1⟩
 have hsz : K.sz c' = 1 ∨ xs = [] := by
  cases xs with
  | nil =>exact .inr rfl
  | cons x xs =>left; rw [← K.sz_ok c' x]; rcases K.ls_ok _ _ _ h x with e | ⟨e,_⟩ <;> rw [e] <;> rfl
 have s3 : Sat B w (afb A xs.length cap (K.sz c') vss.flatten :: ae8 (fun u =>∀ (i : Nat) ys a,(al8 hc.down xs)[i]? = some ys → ps[i]? = some a → Sl (afa K c) (K.sz c) u u.heap.size a.1 ys ∧ ys.length ≤ a.2) :: L) := s2.imp fun _ =>aoQ
 refine ⟨ps,?_⟩
 have hlen : (al8 hc.down xs).length = xs.length := by rw [ae5,List.length_map]
 rcases hsz with hsz | rfl
 ·rw [hsz] at s3
  have s4 : Sat B w (afb A xs.length cap 1 (vss.flatten.flatMap fun v =>[v]) :: ae8 (fun u =>∀ (i : Nat) ys a,(al8 hc.down xs)[i]? = some ys → ps[i]? = some a → Sl (afa K c) (K.sz c) u u.heap.size a.1 ys ∧ ys.length ≤ a.2) :: L) := by
   have : (vss.flatten.flatMap fun v =>[v]) = vss.flatten := by simp
   rw [this]; exact s3
  have s5 := atp (enc := fun v : Value =>[v]) Nat.one_pos (fun _ =>rfl) f1 B w s4
  refine s5.imp fun k hk =>aaP (ad2 fun u hu =>?_) (awx k hk)
  obtain ⟨⟨u1,u2⟩,u3⟩ := hu
  refine ⟨⟨by rw [hlen,← f1]; exact u1.1,by rw [hlen,← f1]; exact u2⟩,fun i ys hi =>?_⟩
  obtain ⟨a,ha,hv⟩ := f2 i ys hi
  have hlt := (List.getElem?_eq_some_iff.1 hv).1
  obtain ⟨b,o,hA,hb,hc'⟩ := u1.at_ hlt
  refine ⟨a,ha,u3 i ys a hi ha,b,o,hA,hb,?_⟩
  have := hc' i hlt 0 (.slice a.1 ys.length a.2) (by rw [(List.getElem?_eq_some_iff.1 hv).2]; rfl)
  simpa using this
 ·refine s3.imp fun k hk =>aaP (ad2 fun u hu =>⟨⟨by simp [ae5],by simp [ae5]⟩,fun i ys hi =>by rw [ae5] at hi; cases hi⟩) (Ent.drop k hk)
def aFK (K : KT) (a : KT.H K → Fl K.T K.M → V → Option (Fl K.T K.M × KT.H K)) : Prop :=
 ∀ H e v fl H',a H e v = some (fl,H') → ∀ ρ X B w,Sat B w (dH K ρ H ++ X) → Sat B w (pcS K fl (aaw ρ v) :: (dH K ρ H' ++ X))
def aFJ (K : KT) (own : KT.H K → (c : Nat) → List (Fd K.T K.M) → Option (K.T c × KT.H K)) : Prop :=
 ∀ H c fs x H',own H c fs = some (x,H') → ∀ ρ X vs B w,Sat B w (fsS (fS K ρ) fs vs ++ (dH K ρ H ++ X)) → Sat B w (fsS (pcS K) (K.vw c x) vs ++ (dH K ρ H' ++ X))
theorem abh {B : Nat} {w : World} {p : aad} {L : List aad} (s : Sat B w L) (h : ∀ k,p k) : Sat B w (p :: L) := s.imp fun k hk =>⟨fun _ _ =>none,k,fun _ _ =>.inl rfl,by funext x y; rfl,h _,hk⟩
theorem abg {B : Nat} {w : World} {A A' : aad} {L : List aad} (f : ∀ h,A h → A' h) (s : Sat B w (A :: L)) : Sat B w (A' :: L) := s.imp fun _ =>aaP f
theorem au6 {own : KT.H K → (c : Nat) → List (Fd K.T K.M) → Option (K.T c × KT.H K)} (ho : aFJ K own) {H H' : KT.H K} {id c : Nat} {fs : List (Fd K.T K.M)} {x : K.T c} (hg : get H id = some (.cells fs)) (h : own (del H id) c fs = some (x,H')) {X : List aad} {B : Nat} {w : World} (s : Sat B w (dH K ρ H ++ X)) :
  Sat B w (obS K c x (ρ.p id) :: (dH K ρ H' ++ X)) := by
 obtain ⟨vs,s2⟩ := ag7 (s.imp (aaR (ρ := ρ) hg))
 have s3 := ho _ _ _ _ _ h ρ (pts (ρ.p id).1 (ρ.p id).2 vs :: X) vs B w (s2.perm (by
  show ((pts (ρ.p id).1 (ρ.p id).2 vs :: fsS (fS K ρ) fs vs) ++ (dH K ρ (del H id) ++ X)).Perm (fsS (fS K ρ) fs vs ++ (dH K ρ (del H id) ++ (pts (ρ.p id).1 (ρ.p id).2 vs :: X)))
  rw [← List.append_assoc,← List.append_assoc]
  exact (List.perm_middle (l₁ := fsS (fS K ρ) fs vs ++ dH K ρ (del H id))).symm))
 have s4 : Sat B w ((pts (ρ.p id).1 (ρ.p id).2 vs :: fsS (pcS K) (K.vw c x) vs) ++ (dH K ρ H' ++ X)) := s3.perm (by
  rw [← List.append_assoc,List.cons_append,← List.append_assoc]
  exact List.perm_middle)
 refine s4.imp fun k hk =>?_
 obtain ⟨k1,k2,a,e,g1,g2⟩ := aao.1 hk
 exact ⟨k1,k2,a,e,akF.2 ⟨vs,g1⟩,g2⟩
theorem aAk {own : KT.H K → (c : Nat) → List (Fd K.T K.M) → Option (K.T c × KT.H K)} (ho : aFJ K own) : aFK K (aIm K own) := by
 intro H e v fl H' h ρ X B w s
 unfold aIm at h
 split at h
 ·split at h
  ·rename_i hi
   split at h
   ·rename_i hk
    cases h
    obtain rfl := ag8 hk
    exact abh s fun k =>aaH.2 (show aaw ρ v = _ from afI hi)
   ·cases h
  ·cases h
 ·split at h
  ·rename_i hb; cases h; exact abh s fun k =>aaH.2 (show aaw ρ v = _ from ajA hb)
  ·cases h
 ·cases h
 ·rename_i c xs0
  split at h
  ·rename_i id
   split at h
   ·rename_i c' xs hg
    split at h
    ·rename_i ys hy
     cases h
     obtain ⟨rfl,rfl⟩ := agA hy
     have hv := aiW s (.inr hg)
     obtain ⟨h0,H0,t0⟩ := s
     have key : Sat B w (roS (afa K c') (K.sz c') (ρ.s id).a (ρ.s id).c ys :: (dH K ρ H ++ X)) := by
      have : ∀ k,abW (dH K ρ H ++ X) k → abW (roS (afa K c') (K.sz c') (ρ.s id).a (ρ.s id).c ys :: (dH K ρ H ++ X)) k := by
       intro k hk
       obtain ⟨j1,j2,a1,e1,⟨_,m2⟩,mL⟩ := aaR (ρ := ρ) hg k hk
       obtain ⟨p,hp,hΦ⟩ := m2
       refine ⟨p,k,fun b o =>?_,?_,⟨p,fun b o x hx =>⟨(hp b o x hx).1,hx⟩,hΦ⟩,hk⟩
       ·cases hpb : p b o with
        | none =>exact .inl rfl
        | some x =>
         obtain ⟨⟨v,rfl⟩,h2⟩ := hp b o x hpb
         exact .inr (.inr ⟨v,rfl,by rw [e1]; unfold ada; rw [h2]⟩)
       ·funext b o
        unfold ada
        cases hpb : p b o with
        | none =>rfl
        | some x =>
         obtain ⟨⟨v,rfl⟩,h2⟩ := hp b o x hpb
         rw [e1]; unfold ada; rw [h2]
      exact ⟨h0,H0,this _ t0⟩
     exact abg (fun k hk =>aaH.2 (show pcW K (obS K) (rwS K) (.ro c' ys) (aaw ρ (.sl id)) k from ⟨_,_,hv,hk⟩)) key
    ·cases h
   ·rename_i c' xs hg
    split at h
    ·rename_i ys hy
     split at h
     ·rename_i hpl
      cases h
      obtain ⟨rfl,rfl⟩ := agA hy
      have hv := aiW s (.inl hg)
      obtain ⟨hh,Hh,k1,k2,a,e,⟨h1,h2⟩,hL⟩ := s.imp (aaR (ρ := ρ) hg)
      simp only [Bool.and_eq_true] at hpl
      have s2 : Sat B w (rwS K c' ys (ρ.s id).a (ρ.s id).c :: (dH K ρ (del H id) ++ X)) := ⟨hh,Hh,k1,k2,a,e,h2,hL⟩
      refine ((ayA hpl.1 (Nat.le_of_ble_eq_true hpl.2) s2).imp ayD).imp fun k hk =>?_
      exact aaP (fun k hk =>aaH.2 (show pcW K (obS K) (rwS K) (.ro c' ys) (aaw ρ (.sl id)) k from ⟨_,_,hv,hk⟩)) (abq (fun k hk =>aaP (fun k hk =>⟨h1,hk⟩) hk) hk)
     ·cases h
    ·cases h
   ·cases h
  ·cases h
   exact s.imp fun k hk =>by
    have := aCJ (enc := afa K c) (sz := K.sz c) (A := none) (c := 0) k hk
    exact aaP (fun k hk =>aaH.2 (show pcW K (obS K) (rwS K) (.ro c []) (.slice none 0 0) k from ⟨none,0,rfl,hk⟩)) this
  ·cases h
 ·rename_i c xs0
  split at h
  ·rename_i id
   split at h
   ·rename_i c' xs hg
    split at h
    ·rename_i ys hy
     cases h
     obtain ⟨rfl,rfl⟩ := az9 hy
     have hv : aaw ρ (.sl id) = .slice (ρ.s id).a ys.length (ρ.s id).c := by
      rw [aaw,aia (H := H) (m := ys.length) (by unfold azp; rw [hg]) s]
     obtain ⟨h0,H0,t0⟩ := s
     refine ⟨h0,H0,?_⟩
     obtain ⟨j1,j2,a1,e1,⟨m1,ps,m2⟩,mL⟩ := aaR (ρ := ρ) hg h0 t0
     obtain ⟨p,hp,hΦ⟩ := m2
     have hpp : ∀ b o x,p b o = some x → (∃ v,x = .look v) ∧ h0 b o = some x := fun b o x hx =>⟨(hp b o x hx).1,by rw [e1]; unfold ada; rw [(hp b o x hx).2]⟩
     refine ⟨p,h0,fun b o =>?_,?_,aaH.2 (show pcW K (obS K) (rwS K) (.rr c' ys) (aaw ρ (.sl id)) p from ⟨_,_,hv,ps,p,fun b o x hx =>⟨(hpp b o x hx).1,hx⟩,hΦ⟩),t0⟩
     ·cases hpb : p b o with
      | none =>exact .inl rfl
      | some x =>
       obtain ⟨⟨v,rfl⟩,h2⟩ := hpp b o x hpb
       exact .inr (.inr ⟨v,rfl,h2⟩)
     ·funext b o
      unfold ada
      cases hpb : p b o with
      | none =>rfl
      | some x =>exact (hpp b o x hpb).2
    ·cases h
   ·rename_i c' xs hg
    split at h
    ·rename_i hc hls
     cases h
     have hv := aiW s (.inl hg)
     obtain ⟨hh,Hh,k1,k2,a,e,⟨h1,h2⟩,hL⟩ := s.imp (aaR (ρ := ρ) hg)
     have s2 : Sat B w (rwS K c' xs (ρ.s id).a (ρ.s id).c :: (dH K ρ (del H id) ++ X)) := ⟨hh,Hh,k1,k2,a,e,h2,hL⟩
     obtain ⟨ps,s3⟩ := aGv hls s2
     have hlen : (al8 hc.down xs).length = xs.length := by rw [ae5,List.length_map]
     refine (s3.imp alG).imp fun k hk =>?_
     exact aaP (fun k hk =>aaH.2 (show pcW K (obS K) (rwS K) (.rr c (al8 hc.down xs)) (aaw ρ (.sl id)) k from ⟨_,_,by rw [hv,hlen],ps,hk⟩)) (abq (fun k hk =>aaP (fun k hk =>⟨by rw [h1,hlen],ps,hk⟩) hk) hk)
    ·cases h
   ·cases h
  ·cases h
   exact s.imp fun k hk =>by
    refine aaP (fun k hk =>aaH.2 (show pcW K (obS K) (rwS K) (.rr c []) (.slice none 0 0) k from ⟨none,0,rfl,[],?_⟩)) (apu k hk)
    exact ad2 (fun u _ =>⟨⟨by simp,by simp⟩,fun i ys hi =>by cases hi⟩) k hk
  ·cases h
 ·rename_i c xs0
  split at h
  ·rename_i id
   split at h
   ·rename_i c' xs hg
    split at h
    ·rename_i ys hy
     cases h
     obtain ⟨rfl,rfl⟩ := agA hy
     have hv := aiW s (.inl hg)
     obtain ⟨hh,Hh,k1,k2,a,e,⟨h1,h2⟩,hL⟩ := s.imp (aaR (ρ := ρ) hg)
     exact ⟨hh,Hh,k1,k2,a,e,aaH.2 (show pcW K (obS K) (rwS K) (.row c' ys) (aaw ρ (.sl id)) k1 from ⟨_,_,hv,h2⟩),hL⟩
    ·cases h
   ·rename_i c' xs i o u hg
    split at h
    ·rename_i ys hy
     obtain ⟨rfl,rfl⟩ := agA hy
     have fin : ∀ {f' : Fl K.T K.M} {x' : K.T c'} {L : List aad},K.bk c' ((K.vw c' (atL (K.df c') ys i)).set o f') = some x' → Sat B w (acg K ρ id (.hole c' ys i o u) :: pcS K f' (aaw ρ u) :: L) → Sat B w (pcS K (.row c' (ys.set i.toNat x')) (aaw ρ (.sl id)) :: L) := by
      intro f' x' L hb s'
      refine abg (fun k hk =>?_) (axE (K.bk_ok _ _ _ hb) s')
      exact aaH.2 (show pcW K (obS K) (rwS K) (.row c' (ys.set i.toNat x')) (aaw ρ (.sl id)) k from ⟨(ρ.s id).a,(ρ.s id).c,by rw [aaw,hk.1],hk.2⟩)
     have s1 : Sat B w (dH K ρ (del H id) ++ (acg K ρ id (.hole c' ys i o u) :: X)) := (s.imp (aaR (ρ := ρ) hg)).perm (List.perm_middle (l₁ := dH K ρ (del H id))).symm
     split at h
     ·rename_i c2 y0 _
      split at h
      ·rename_i id2 p
       split at h
       ·split at h
        ·rename_i fs hg2
         split at h
         ·rename_i y H2 hown
          split at h
          ·rename_i x' hb
           cases h
           have s2 := au6 ho hg2 hown s1
           have s3 : Sat B w (pcS K (.own c2 y) (aaw ρ (.ptr id2 0)) :: (dH K ρ H' ++ (acg K ρ id (.hole c' ys i o (.ptr id2 0)) :: X))) := abg (fun k hk =>aaH.2 (show pcW K (obS K) (rwS K) (.own c2 y) (aaw ρ (.ptr id2 0)) k from ⟨ρ.p id2,rfl,hk⟩)) s2
           refine fin hb (s3.perm ?_)
           exact (List.Perm.cons _ (List.perm_middle (l₁ := dH K ρ H'))).trans (List.Perm.swap ..)
          ·cases h
         ·cases h
        ·cases h
       ·cases h
      ·cases h
     ·split at h
      ·rename_i id2
       split at h
       ·rename_i m hg2
        split at h
        ·rename_i x' hb
         cases h
         have s2 := s1.imp (aaR (ρ := ρ) hg2)
         refine fin (f' := .mach m) hb (s2.perm ?_)
         exact (List.Perm.cons _ (List.perm_middle (l₁ := dH K ρ (del (del H id) id2)))).trans (List.Perm.swap ..)
        ·cases h
       ·cases h
      ·cases h
     ·cases h
    ·cases h
   ·cases h
  ·cases h
   have hr : ∀ k,rwS K c [] none 0 k := fun k =>adq.2 ⟨[],fun _ _ =>none,k,fun _ _ =>.inl rfl,by funext x y; rfl,av0 _ _,trivial⟩
   exact abh s fun k =>aaH.2 (show pcW K (obS K) (rwS K) (.row c []) (.slice none 0 0) k from ⟨none,0,rfl,hr k⟩)
  ·cases h
 ·rename_i c x0
  split at h
  ·rename_i id o
   split at h
   ·split at h
    ·rename_i fs hg
     split at h
     ·rename_i x H2 hx
      cases h
      have s2 := au6 ho hg hx s
      exact abg (fun k hk =>aaH.2 (show pcW K (obS K) (rwS K) (.own c x) (aaw ρ (.ptr id 0)) k from ⟨ρ.p id,rfl,hk⟩)) s2
     ·cases h
    ·cases h
   ·cases h
  ·cases h
 ·split at h
  ·rename_i hb; cases h; exact abh s fun _ =>aaH.2 (show pcW K (obS K) (rwS K) .o (aaw ρ v) _ from aIH hb)
  ·cases h
 ·rename_i c ag m0
  split at h
  ·rename_i id
   split at h
   ·rename_i c' ag' m hg
    split at h
    ·rename_i e0
     split at h
     ·rename_i m' hm
      cases h
      obtain ⟨e,h2⟩ := aCv hm
      have e1 : ag' = ag := eq_of_beq e0
      subst e; subst h2; subst e1
      exact s.imp (aaR (ρ := ρ) hg)
     ·cases h
    ·cases h
   ·cases h
  ·cases h
 ·split at h
  ·rename_i id
   split at h
   ·rename_i m hg
    cases h
    exact s.imp (aaR (ρ := ρ) hg)
   ·cases h
  ·cases h
   exact abh s fun k =>aaH.2 (by simp only [pcW,K.nilM_ok]; rfl)
  ·rename_i t v
   split at h
   ·rename_i id o
    split at h
    ·split at h
     ·rename_i c hkd
      split at h
      ·rename_i fs hg
       split at h
       ·rename_i x H2 hx
        split at h
        ·rename_i m hm
         cases h
         have s2 := au6 ho hg hx s
         refine abg (fun k hk =>aaH.2 ?_) s2
         simp only [pcW,K.mkM_ok _ _ _ hm]
         exact ⟨ρ.p id,by rw [K.kd_ok _ _ hkd]; rfl,hk⟩
        ·cases h
       ·cases h
      ·cases h
     ·cases h
    ·cases h
   ·cases h
  ·cases h
theorem agL {A : List aad} : ∀ {L : List aad} {h : Hp},abW (L ++ A) h → abW A h
 | [],_,s =>s
 | _ :: _,h,s =>agL (Ent.drop h s)
theorem akc {α : Type _} (A B X : List α) (p : α) : (A ++ (B ++ (p :: X))).Perm (p :: (A ++ (B ++ X))) := by
 rw [← List.append_assoc,← List.append_assoc]; exact List.perm_middle
theorem ac9 {α : Type _} (A B X : List α) : (A ++ (B ++ X)).Perm (B ++ (A ++ X)) := by
 rw [← List.append_assoc,← List.append_assoc]; exact List.perm_append_comm.append_right _
theorem aaQ {B : Nat} {w : World} {L : List aad} {p : Prop} (s : Sat B w ((fun _ =>False) :: L)) : p := by
 obtain ⟨_,_,_,_,_,_,hf,_⟩ := s; exact hf.elim
theorem ais {a : KT.H K → Fl K.T K.M → V → Option (Fl K.T K.M × KT.H K)} (ha : aFK K a) : ∀ {H : KT.H K} {es : List (Fl K.T K.M)} {fs : List (Fd K.T K.M)} {l : List (Fl K.T K.M)} {H' : KT.H K},auC K a H es fs = some (l,H') →
  ∀ {ρ : Env} {X : List aad} {vs : List Value} {B : Nat} {w : World},Sat B w (fsS (fS K ρ) fs vs ++ (dH K ρ H ++ X)) → Sat B w (fsS (pcS K) l vs ++ (dH K ρ H' ++ X))
 | H,[],[],l,H',h,ρ,X,vs,B,w,s =>by
  cases h
  cases vs with
  | nil =>exact s
  | cons v vs =>exact aaQ s
 | H,e :: es,.f x :: fs,l,H',h,ρ,X,vs,B,w,s =>by
  unfold auC at h
  split at h
  ·rename_i l' H2 h2
   cases h
   cases vs with
   | nil =>exact aaQ s
   | cons v vs =>
    have s1 : Sat B w (fsS (fS K ρ) fs vs ++ (dH K ρ H ++ (pcS K x v :: X))) := s.perm (akc (fsS (fS K ρ) fs vs) (dH K ρ H) X (pcS K x v)).symm
    have s2 := ais ha h2 s1
    exact s2.perm (akc (fsS (pcS K) l' vs) (dH K ρ H') X (pcS K x v))
  ·cases h
 | H,e :: es,.v u :: fs,l,H',h,ρ,X,vs,B,w,s =>by
  unfold auC at h
  split at h
  ·rename_i x H1 h1
   split at h
   ·rename_i l' H2 h2
    cases h
    cases vs with
    | nil =>exact aaQ s
    | cons v vs =>
     have hv : v = aaw ρ u := Sat.pure (show Sat B w (anN (v = aaw ρ u) :: (fsS (fS K ρ) fs vs ++ (dH K ρ H ++ X))) from s)
     have s0 : Sat B w (fsS (fS K ρ) fs vs ++ (dH K ρ H ++ X)) := s.imp Ent.drop
     have s1 := ha _ _ _ _ _ h1 ρ (fsS (fS K ρ) fs vs ++ X) B w (s0.perm (ac9 (fsS (fS K ρ) fs vs) (dH K ρ H) X))
     have s2 : Sat B w (fsS (fS K ρ) fs vs ++ (dH K ρ H1 ++ (pcS K x v :: X))) := s1.perm (by
      rw [← hv]
      exact (List.Perm.cons _ (ac9 (dH K ρ H1) (fsS (fS K ρ) fs vs) X)).trans (akc (fsS (fS K ρ) fs vs) (dH K ρ H1) X (pcS K x v)).symm)
     have s3 := ais ha h2 s2
     exact s3.perm (akc (fsS (pcS K) l' vs) (dH K ρ H') X (pcS K x v))
   ·cases h
  ·cases h
 | _,[],_ :: _,_,_,h,_,_,_,_,_,_ =>by cases h
 | _,_ :: _,[],_,_,h,_,_,_,_,_,_ =>by cases h
theorem aAm : ∀ f,aFJ K (aIo K f)
 | 0 =>fun _ _ _ _ _ h =>by cases h
 | f + 1 =>fun H c fs x H' h ρ X vs B w s =>by
  unfold aIo at h
  split at h
  ·rename_i l H2 hl
   split at h
   ·rename_i y hy
    cases h
    have := ais (aAk (aAm f)) hl s
    rw [K.bk_ok _ _ _ hy]
    exact this
   ·cases h
  ·cases h
theorem aqc : aFK K (asm K) := aAk (aAm _)
end
theorem ad3 {sz : Nat} : ∀ {vss : List (List Value)},(∀ vs ∈ vss,vs.length = sz) → vss.flatten.length = vss.length * sz
 | [],_ =>by simp
 | vs :: vss,h =>by
  rw [List.flatten_cons,List.length_append,ad3 (fun v hv =>h v (List.mem_cons_of_mem _ hv)),h vs (List.mem_cons_self ..),List.length_cons,Nat.add_mul]; omega
theorem aig {sz : Nat} : ∀ {vss : List (List Value)} {i o : Nat} {vs us : List Value},(∀ vs ∈ vss,vs.length = sz) → vss[i]? = some vs → o + us.length ≤ sz →
  (vss.set i (vs.take o ++ us ++ vs.drop (o + us.length))).flatten = vss.flatten.take (i * sz + o) ++ us ++ vss.flatten.drop (i * sz + o + us.length)
 | [],i,o,vs,us,_,h,_ =>by cases h
 | ws :: vss,0,o,vs,us,hl,h,ho =>by
  simp at h; subst h
  have h0 := hl ws (List.mem_cons_self ..)
  simp only [List.set_cons_zero,List.flatten_cons,Nat.zero_mul,Nat.zero_add]
  rw [List.take_append_of_le_length (by omega),List.drop_append_of_le_length (by omega)]
  simp only [List.append_assoc]
 | ws :: vss,i + 1,o,vs,us,hl,h,ho =>by
  have h0 := hl ws (List.mem_cons_self ..)
  have ih := aig (vss := vss) (i := i) (o := o) (vs := vs) (us := us) (fun v hv =>hl v (List.mem_cons_of_mem _ hv)) (by simpa using h) ho
  simp only [List.set_cons_succ,List.flatten_cons]
  rw [ih,show (i + 1) * sz + o = ws.length + (i * sz + o) by rw [h0,Nat.add_mul]; omega]
  rw [List.take_length_add_append,Nat.add_assoc ws.length,List.drop_length_add_append]
  simp only [List.append_assoc]
theorem aie {F : Type} {pc : F → Value → aad} : ∀ {a b : List F} {x y : List Value},a.length = x.length → fsS pc (a ++ b) (x ++ y) = fsS pc a x ++ fsS pc b y
 | [],_,[],_,_ =>rfl
 | f :: a,b,v :: x,y,h =>by simp only [List.cons_append,fsS,aie (a := a) (x := x) (by simpa using h)]
 | [],_,_ :: _,_,h =>by cases h
 | _ :: _,_,[],_,h =>by cases h
section
variable {P : Program} {B : Nat} {W : World}
theorem ayz {T : TypeId} {v : Value} {b o m c sz i k : Nat} {vs us : List Value} {w : World} {L : List aad} (s : Sat B w (afb (some ⟨b,o,none⟩) m c sz vs :: L)) (hb : Below B W w) (hl : B ≤ w.heap.size) (hT : P.cellsOf T = k) (hk : us.length = k) (hk0 : 0 < k) (hv : v.cells.toList = us) (ha : us.all adA = true) (hi : i + k ≤ vs.length) :
  ∃ w',(storeVar T ⟨b,o + i,none⟩ v).run P w = .ok () w' ∧ Cls B W (afb (some ⟨b,o,none⟩) m c sz (vs.take i ++ us ++ vs.drop (i + k)) :: L) w' := by
 obtain ⟨h,Hh,k1,k2,ap,e,⟨h1,h2,h3,h4⟩,hM⟩ := s
 rcases h4 with ⟨h4,_⟩ | ⟨b',o',spare,hA,hsp,hp⟩
 ·cases h4
 ·cases hA
  have s' : Sat B w (pts b o (vs ++ spare) :: L) := ⟨h,Hh,k1,k2,ap,e,hp,hM⟩
  obtain ⟨w',hr,c1,c2,c3⟩ := anm (P := P) (T := T) (v := v) (W := W) (o' := o + i) (i := i) (k := k) (us := us) s' hb hl rfl hT hk hk0 hv ha (by rw [List.length_append]; omega)
  refine ⟨w',hr,c1,c2,c3.imp fun h =>aaP fun h hq =>?_⟩
  have e1 : List.take i (vs ++ spare) ++ us ++ List.drop (i + k) (vs ++ spare) = (vs.take i ++ us ++ vs.drop (i + k)) ++ spare := by
   rw [List.take_append_of_le_length (by omega),List.drop_append_of_le_length (by omega)]
   simp only [List.append_assoc]
  rw [e1] at hq
  refine ⟨?_,h2,h3,.inr ⟨b,o,spare,rfl,hsp,hq⟩⟩
  rw [← h1]; simp only [List.length_append,List.length_take,List.length_drop]; omega
end
section
variable (K : KT)
def aFd (P : Program) (H : KT.H K) (T : TypeId) (x u : V) : Option (KT.H K) :=
 match x with
 | .ptr id o =>match get H id with
  | some (.elt j i sz) =>match get H j with
   | some (.row c xs) =>match Nat.beq sz (K.sz c) && Nat.beq (P.cellsOf T) (aaE u).length && Nat.blt 0 (aaE u).length && Nat.ble (o + (aaE u).length) sz && (aaE u).all (scV (del H j)) with
    | true =>match auC K (asm K) (del H j) (((K.vw c (atL (K.df c) xs i)).drop o).take (aaE u).length) ((aaE u).map .v) with
     | some (l,H1) =>match K.bk c ((K.vw c (atL (K.df c) xs i)).take o ++ l ++ (K.vw c (atL (K.df c) xs i)).drop (o + (aaE u).length)) with
      | some x' =>some ((j,.row c (xs.set i.toNat x')) :: H1)
      | none =>none
     | none =>none
    | false =>none
   | _ =>none
  | _ =>none
 | _ =>none
end
section
variable {K : KT} {P : Program} {nt n B : Nat} {W : World} {R : aa3} {Z H : KT.H K} {nx : Nat → KT.H K → V → Prop}
theorem aor {a : KT.H K → Fl K.T K.M → V → Option (Fl K.T K.M × KT.H K)} : ∀ {H : KT.H K} {es : List (Fl K.T K.M)} {fs : List (Fd K.T K.M)} {l : List (Fl K.T K.M)} {H' : KT.H K},auC K a H es fs = some (l,H') → l.length = fs.length ∧ es.length = fs.length
 | H,[],[],l,H',h =>by cases h; exact ⟨rfl,rfl⟩
 | H,e :: es,.f x :: fs,l,H',h =>by
  unfold auC at h
  split at h
  ·rename_i h2; cases h; have := aor h2; simp [this]
  ·cases h
 | H,e :: es,.v u :: fs,l,H',h =>by
  unfold auC at h
  split at h
  ·split at h
   ·rename_i h2; cases h; have := aor h2; simp [this]
   ·cases h
  ·cases h
 | _,[],_ :: _,_,_,h =>by cases h
 | _,_ :: _,[],_,_,h =>by cases h
theorem auH {o : Oper} {T : TypeId} {x y : Operand} {u v : V} {H' : KT.H K} (ho : o.op = .store T x y) (hx : evO R x = some u) (hy : evO R y = some v) (h : aFd K P H T u v = some H') (hn : nx n H' (.c undef)) : aet K P nt B W o R n Z H nx := fun F ρ a w s =>by
 obtain ⟨d,op,ty,ps,af,g⟩ := o
 simp only at ho
 subst ho
 have ex := (aaL (ρ := ρ) hx).eval s.regs
 have ey := (aaL (ρ := ρ) hy).eval s.regs
 unfold aFd at h
 split at h
 ·rename_i id o'
  split at h
  ·rename_i j i sz hel
   split at h
   ·rename_i c xs hg
    split at h
    ·rename_i hB
     split at h
     ·rename_i l H1 hl
      split at h
      ·rename_i x' hbk
       cases h
       simp only [Bool.and_eq_true] at hB
       obtain ⟨⟨⟨⟨b0,b1⟩,b2⟩,b3⟩,b4⟩ := hB
       obtain rfl := Nat.eq_of_beq_eq_true b0
       have b1' := Nat.eq_of_beq_eq_true b1
       have b2' : 0 < (aaE v).length := Nat.le_of_ble_eq_true b2
       have b3' := Nat.le_of_ble_eq_true b3
       obtain ⟨hi,b,o2,hA,hp⟩ := at7 s.sat hel
       obtain ⟨hlen,vss,h2,h3,s2⟩ := akn s.sat hg
       rw [hlen] at hi
       have hxi := aeI (d := K.df c) hi
       have hlt : i.toNat < vss.length := by omega
       have hvs : vss[i.toNat]? = some vss[i.toNat] := List.getElem?_eq_getElem hlt
       have hvl := h3 _ (List.getElem_mem hlt)
       rw [hA] at s2
       -- what is stored
       have s3 : Sat B w (dH K ρ (del H j) ++ (afb (some ⟨b,o2,none⟩) xs.length (ρ.s j).c (K.sz c) vss.flatten :: (act K (pcS K) c xs vss ++ tl K Z F ρ))) := s2.perm (by
        refine List.Perm.symm ?_
        refine (List.perm_middle (l₁ := dH K ρ (del H j))).trans (List.Perm.cons _ ?_)
        exact ac9 _ _ _)
       obtain ⟨hcl,hsc⟩ := al6 b4 s3
       have hvlen : (aag ρ (aaE v)).length = (aaE v).length := by rw [aaU]; simp
       have s4 := ais aqc hl (ρ := ρ) (X := afb (some ⟨b,o2,none⟩) xs.length (ρ.s j).c (K.sz c) vss.flatten :: (act K (pcS K) c xs vss ++ tl K Z F ρ)) (vs := aag ρ (aaE v)) (s3.imp fun k hk =>aid hk)
       have s5 : Sat B w (afb (some ⟨b,o2,none⟩) xs.length (ρ.s j).c (K.sz c) vss.flatten :: (fsS (pcS K) l (aag ρ (aaE v)) ++ (dH K ρ H1 ++ (act K (pcS K) c xs vss ++ tl K Z F ρ)))) := s4.perm (akc _ _ _ _)
       obtain ⟨w',hr,c1,c2,c3⟩ := ayz (P := P) (T := T) (v := aaw ρ v) (W := W) (i := i.toNat * K.sz c + o') (k := (aaE v).length) (us := aag ρ (aaE v)) s5 s.below s.lo b1' hvlen b2' hcl hsc (by
        rw [ad3 h3]
        have : (i.toNat + 1) * K.sz c ≤ vss.length * K.sz c := Nat.mul_le_mul_right _ hlt
        rw [Nat.add_mul] at this
        omega)
       have : (execOp a.eval ⟨d,.store T x y,ty,ps,af,g⟩).run P w = .ok .skip w' := by
        simp only [execOp,ex,ey,aaw,Instr.storeAt,Instr.sureAddr,hp]
        rw [aaa (a := ()) (w' := w') (by
         rw [aaa (a := (⟨b,o2 + i.toNat * K.sz c + o',none⟩ : Addr)) (w' := w) rfl]
         rw [Nat.add_assoc]; exact hr)]
        rfl
       rw [this]
       refine ⟨⟨ρ,n,_,.c undef⟩,rfl,⟨aay.refl _ _,Nat.le_refl _,rfl,hn⟩,c1,c2,?_⟩
       rw [← hvlen] at c3
       rw [← aig h3 hvs (by omega)] at c3
       -- put together again
       obtain ⟨M,p1,p2⟩ := ahA (pc := pcS K) hxi hvs
       refine c3.imp fun k hk =>?_
       obtain ⟨k1,k2,a',e',g1,g2⟩ := hk
       have g3 : abW ((fsS (pcS K) l (aag ρ (aaE v)) ++ (fsS (pcS K) (K.vw c (atL (K.df c) xs i)) vss[i.toNat] ++ M)) ++ (dH K ρ H1 ++ tl K Z F ρ)) k2 := by
        refine abF ?_ g2
        rw [List.append_assoc]
        refine List.Perm.append_left _ ?_
        refine (ac9 _ _ _).trans ?_
        exact p1.append_right _
       have hes : (K.vw c (atL (K.df c) xs i)).length = (vss[i.toNat]).length := by rw [K.sz_ok,hvl]
       have hol : o' + (aaE v).length ≤ (K.vw c (atL (K.df c) xs i)).length := by rw [K.sz_ok]; exact b3'
       have hll := (aor hl).1
       rw [List.length_map] at hll
       -- the old cells' places in three
       have e1 : fsS (pcS K) (K.vw c (atL (K.df c) xs i)) vss[i.toNat] = fsS (pcS K) ((K.vw c (atL (K.df c) xs i)).take o') ((vss[i.toNat]).take o') ++ (fsS (pcS K) (((K.vw c (atL (K.df c) xs i)).drop o').take (aaE v).length) (((vss[i.toNat]).drop o').take (aaE v).length) ++ fsS (pcS K) ((K.vw c (atL (K.df c) xs i)).drop (o' + (aaE v).length)) ((vss[i.toNat]).drop (o' + (aaE v).length))) := by
        conv =>lhs; rw [← List.take_append_drop o' (K.vw c (atL (K.df c) xs i)),← List.take_append_drop o' (vss[i.toNat]),aie (by simp [hes])]
        conv =>lhs; arg 2; rw [← List.take_append_drop (aaE v).length ((K.vw c (atL (K.df c) xs i)).drop o'),← List.take_append_drop (aaE v).length ((vss[i.toNat]).drop o'),aie (by simp [hes]),List.drop_drop,List.drop_drop]
       rw [e1] at g3
       have g4 : abW ((fsS (pcS K) ((K.vw c (atL (K.df c) xs i)).take o') ((vss[i.toNat]).take o') ++ (fsS (pcS K) l (aag ρ (aaE v)) ++ (fsS (pcS K) ((K.vw c (atL (K.df c) xs i)).drop (o' + (aaE v).length)) ((vss[i.toNat]).drop (o' + (aaE v).length)) ++ M))) ++ (dH K ρ H1 ++ tl K Z F ρ)) k2 := by
        have g5 : abW (fsS (pcS K) (((K.vw c (atL (K.df c) xs i)).drop o').take (aaE v).length) (((vss[i.toNat]).drop o').take (aaE v).length) ++ ((fsS (pcS K) ((K.vw c (atL (K.df c) xs i)).take o') ((vss[i.toNat]).take o') ++ (fsS (pcS K) l (aag ρ (aaE v)) ++ (fsS (pcS K) ((K.vw c (atL (K.df c) xs i)).drop (o' + (aaE v).length)) ((vss[i.toNat]).drop (o' + (aaE v).length)) ++ M))) ++ (dH K ρ H1 ++ tl K Z F ρ))) k2 := by
         refine abF ?_ g3
         simp only [List.append_assoc]
         refine (ac9 _ _ _).trans ?_
         refine (List.Perm.append_left _ (ac9 _ _ _)).trans ?_
         exact ac9 _ _ _
        exact agL g5
       have e2 : fsS (pcS K) (K.vw c x') ((vss[i.toNat]).take o' ++ aag ρ (aaE v) ++ (vss[i.toNat]).drop (o' + (aag ρ (aaE v)).length)) = fsS (pcS K) ((K.vw c (atL (K.df c) xs i)).take o') ((vss[i.toNat]).take o') ++ (fsS (pcS K) l (aag ρ (aaE v)) ++ fsS (pcS K) ((K.vw c (atL (K.df c) xs i)).drop (o' + (aaE v).length)) ((vss[i.toNat]).drop (o' + (aaE v).length))) := by
        rw [K.bk_ok _ _ _ hbk,List.append_assoc,List.append_assoc,aie (by simp [hes]),aie (by rw [hvlen,hll]),hvlen]
       have g6 : abW (act K (pcS K) c (xs.set i.toNat x') (vss.set i.toNat ((vss[i.toNat]).take o' ++ aag ρ (aaE v) ++ (vss[i.toNat]).drop (o' + (aag ρ (aaE v)).length))) ++ (dH K ρ H1 ++ tl K Z F ρ)) k2 := by
        refine abF (((p2 x' _).append_right _).symm) ?_
        rw [e2]
        simpa only [List.append_assoc] using g4
       have g7 : abW ((afb (some ⟨b,o2,none⟩) (xs.set i.toNat x').length (ρ.s j).c (K.sz c) (vss.set i.toNat ((vss[i.toNat]).take o' ++ aag ρ (aaE v) ++ (vss[i.toNat]).drop (o' + (aag ρ (aaE v)).length))).flatten :: act K (pcS K) c (xs.set i.toNat x') (vss.set i.toNat ((vss[i.toNat]).take o' ++ aag ρ (aaE v) ++ (vss[i.toNat]).drop (o' + (aag ρ (aaE v)).length)))) ++ (dH K ρ H1 ++ tl K Z F ρ)) k := ⟨k1,k2,a',e',by rw [List.length_set]; exact g1,g6⟩
       obtain ⟨j1,j2,a'',e'',q1,q2⟩ := aao.1 g7
       exact ⟨j1,j2,a'',e'',⟨by rw [List.length_set]; exact hlen,adq.2 ⟨_,by rw [hA]; exact q1⟩⟩,q2⟩
      ·cases h
     ·cases h
    ·cases h
   ·cases h
  ·cases h
 ·cases h
end
theorem ak3 : ∀ (us : List Value) (j off : Nat) (cs : Array Value),off + j + us.length ≤ cs.size →
  ((us.zipIdx j).foldl (fun cs (p : Value × Nat) =>cs.setIfInBounds (off + p.2) p.1) cs).toList = cs.toList.take (off + j) ++ us ++ cs.toList.drop (off + j + us.length)
 | [],j,off,cs,_ =>by simp
 | u :: us,j,off,cs,h =>by
  simp only [List.length_cons] at h
  simp only [List.zipIdx_cons,List.foldl_cons,List.length_cons]
  rw [ak3 us (j + 1) off _ (by simp; omega)]
  simp only [Array.toList_setIfInBounds]
  have hl : off + j < cs.toList.length := by simpa using (by omega : off + j < cs.size)
  rw [show off + (j + 1) = (off + j) + 1 by omega]
  have e1 : (cs.toList.set (off + j) u).take (off + j + 1) = cs.toList.take (off + j) ++ [u] := by
   rw [List.take_succ_eq_append_getElem (by simpa using hl),List.take_set_of_le (Nat.le_refl _)]
   simp
  have e2 : (cs.toList.set (off + j) u).drop (off + j + 1 + us.length) = cs.toList.drop (off + j + (us.length + 1)) := by
   rw [List.drop_set_of_lt (by omega)]; congr 1; omega
  rw [e1,e2]; simp
def axI {K : KT} (H : KT.H K) (pl : Nat → Option (Nat × Nat)) (cells : List V) : List (Nat × V) → Option (List V)
 | [] =>some cells
 | (i,v) :: rest =>match pl i with
  | some (off,size) =>match Nat.beq (aaE v).length size && Nat.ble (off + size) cells.length && (aaE v).all (scV H) with
   | true =>axI H pl (cells.take off ++ aaE v ++ cells.drop (off + size)) rest
   | false =>none
  | none =>none
def aFT (R : aa3) : List (Nat × Operand) → Option (List (Nat × V))
 | [] =>some []
 | (i,x) :: l =>match evO R x with
  | some v =>match aFT R l with
   | some vs =>some ((i,v) :: vs)
   | none =>none
  | none =>none
section
variable {K : KT} {ρ : Env} {B : Nat} {w : World}
theorem aso {R : aa3} : ∀ {l : List (Nat × Operand)} {vs : List (Nat × V)},aFT R l = some vs → EvalPs (dR ρ R) l (vs.map fun p =>(p.1,aaw ρ p.2))
 | [],vs,h =>by cases h; exact .nil
 | (i,x) :: l,vs,h =>by
  unfold aFT at h
  split at h
  ·rename_i hx
   split at h
   ·rename_i hl; cases h; exact .cons (aaL hx) (aso hl)
   ·cases h
  ·cases h
theorem aok {H : KT.H K} {X : List aad} (s : Sat B w (dH K ρ H ++ X)) {pl : Nat → Option (Nat × Nat)} : ∀ {ps : List (Nat × V)} {cells out : List V},axI H pl cells ps = some out →
  Instr.fill pl (aag ρ cells).toArray (ps.map fun p =>(p.1,aaw ρ p.2)) = some (aag ρ out).toArray ∧ out.length = cells.length
 | [],cells,out,h =>by cases h; exact ⟨rfl,rfl⟩
 | (i,v) :: ps,cells,out,h =>by
  unfold axI at h
  split at h
  ·rename_i off size hp
   split at h
   ·rename_i hB
    simp only [Bool.and_eq_true] at hB
    obtain ⟨⟨b1,b2⟩,b3⟩ := hB
    have b1' := Nat.eq_of_beq_eq_true b1
    have b2' := Nat.le_of_ble_eq_true b2
    obtain ⟨hc,_⟩ := al6 b3 s
    obtain ⟨ih,hl⟩ := aok s h
    have hlen : (aag ρ cells).length = cells.length := by rw [aaU]; simp
    have hcl : (aaw ρ v).cells.size = size := by
     have := congrArg List.length hc
     rw [aaU] at this; simpa [b1'] using this
    refine ⟨?_,by rw [hl]; simp; omega⟩
    rw [List.map_cons,Instr.fill]
    simp only [hp,hcl]
    rw [if_neg (by simp [hlen]; omega)]
    rw [← ih]
    congr 1
    apply Array.ext'
    rw [← Array.foldl_toList,Array.toList_zipIdx,hc]
    have := ak3 (aag ρ (aaE v)) 0 off (aag ρ cells).toArray (by rw [aaU (aaE v)]; simp [hlen,b1']; omega)
    rw [Nat.add_zero] at this
    rw [this]
    simp [aaU,b1']
   ·cases h
  ·cases h
end
def plS (P : Program) : List Field → Option (List (Nat × Nat))
 | [] =>some []
 | f :: l =>match P.info? f.type with
  | some i =>match plS P l with
   | some r =>some ((f.offset,i.size) :: r)
   | none =>none
  | none =>none
theorem ayT {P : Program} {w : World} : ∀ {l : List Field} {r : List (Nat × Nat)},plS P l = some r → (l.mapM (m := Sem) fun f =>do pure (f.offset,← sizeOf f.type)).run P w = .ok r w
 | [],r,h =>by cases h; rfl
 | f :: l,r,h =>by
  unfold plS at h
  split at h
  ·rename_i i hi
   split at h
   ·rename_i r' hr
    cases h
    rw [List.mapM_cons]
    have h1 : (sizeOf f.type).run P w = .ok i.size w := by unfold sizeOf; rw [aaa (acf hi)]; rfl
    rw [aaa (a := (f.offset,i.size)) (w' := w) (by rw [aaa h1]; rfl),aaa (ayT hr)]
    rfl
   ·cases h
  ·cases h
section
variable (K : KT)
def aI5 (P : Program) (R : aa3) (H : KT.H K) (T : TypeId) (parts : List (Nat × Operand)) : Option V :=
 match P.underlying T with
 | some (.struct fs) =>match auD P T with
  | some z =>match plS P fs.toList with
   | some pl =>match aFT R parts with
    | some ps =>(axI H (fun i =>pl[i]?) z ps).map .agg
    | none =>none
   | none =>none
  | none =>none
 | some (.array _ E) =>match auD P T with
  | some z =>match P.info? E with
   | some inf =>match aFT R parts with
    | some ps =>(axI H (fun i =>some (i * inf.size,inf.size)) z ps).map .agg
    | none =>none
   | none =>none
  | none =>none
 | _ =>none
def aIc (P : Program) (R : aa3) (H : KT.H K) (T : TypeId) (m : Nat) (parts : List (Nat × Operand)) : Option (Nat × List V) :=
 match P.underlying T with
 | some (.slice E) =>match P.info? E with
  | some inf =>match inf.zero with
   | some z =>match aFT R parts with
    | some ps =>match Nat.ble (m * inf.size) 16777216 && Nat.blt 0 (m * inf.size) with
     | true =>(axI H (fun i =>some (i * inf.size,inf.size)) (((Array.range (m * inf.size)).map (z.cells[· % z.cells.size]!)).toList.map aAE) ps).map fun l =>(inf.size,l)
     | false =>none
    | none =>none
   | none =>none
  | none =>none
 | _ =>none
end
section
variable {K : KT} {P : Program} {ρ : Env} {B : Nat} {w : World}
theorem apV (l : List Value) : aag ρ (l.map aAE) = l := by
 rw [aaU,List.map_map]
 have : (aaw ρ ∘ aAE) = id := by funext x; exact aik ρ x
 rw [this,List.map_id]
theorem aFl {R : aa3} {H : KT.H K} {X : List aad} {T : TypeId} {parts : Array (Nat × Operand)} {v : V} {nt : Nat} {a : Act} (s : Sat B w (dH K ρ H ++ X)) (r : Regs nt a (dR ρ R)) (h : aI5 K P R H T parts.toList = some v) :
  ∀ w',(Instr.build T (parts.map fun (i,x) =>(i,a.eval x))).run P w' = .ok (aaw ρ v) w' := by
 intro w'
 unfold aI5 at h
 split at h
 ·rename_i fs hU
  split at h
  ·rename_i z hz
   split at h
   ·rename_i pl hpl
    split at h
    ·rename_i ps hps
     simp only [Option.map_eq_some_iff] at h
     obtain ⟨l,hl,rfl⟩ := h
     simp only [auD,Option.map_eq_some_iff] at hz
     obtain ⟨zv,hz,rfl⟩ := hz
     have hf := (aok s hl).1
     rw [apV] at hf
     have e := (aso (ρ := ρ) hps).eval r
     unfold Instr.build
     rw [aaa (akU hz),aaa (ack hU)]
     simp only
     have hfs : fs = fs.toList.toArray := by simp
     rw [hfs]
     simp only [List.mapM_toArray]
     rw [aaa (a := pl.toArray) (w' := w') (by rw [map_eq_pure_bind]; exact aaa (ayT hpl))]
     simp only [Array.toList_map,e]
     have hf' : Instr.fill (fun i =>pl.toArray[i]?) zv.cells (ps.map fun p =>(p.1,aaw ρ p.2)) = some (aag ρ l).toArray := by simpa using hf
     rw [hf']; rfl
    ·cases h
   ·cases h
  ·cases h
 ·rename_i E hU
  split at h
  ·rename_i z hz
   split at h
   ·rename_i inf hi
    split at h
    ·rename_i ps hps
     simp only [Option.map_eq_some_iff] at h
     obtain ⟨l,hl,rfl⟩ := h
     simp only [auD,Option.map_eq_some_iff] at hz
     obtain ⟨zv,hz,rfl⟩ := hz
     have hf := (aok s hl).1
     rw [apV] at hf
     have e := (aso (ρ := ρ) hps).eval r
     unfold Instr.build
     rw [aaa (akU hz),aaa (ack hU)]
     simp only
     have h1 : (sizeOf E).run P w' = .ok inf.size w' := by unfold sizeOf; rw [aaa (acf hi)]; rfl
     rw [aaa h1]
     simp only [Array.toList_map,e]
     have hf' : Instr.fill (fun i =>some (i * inf.size,inf.size)) zv.cells (ps.map fun p =>(p.1,aaw ρ p.2)) = some (aag ρ l).toArray := by simpa using hf
     rw [hf']; rfl
    ·cases h
   ·cases h
  ·cases h
 ·cases h
theorem azJ {R : aa3} {H : KT.H K} {X : List aad} {T : TypeId} {m sz : Nat} {parts : Array (Nat × Operand)} {l : List V} {nt : Nat} {a : Act} (s : Sat B w (dH K ρ H ++ X)) (r : Regs nt a (dR ρ R)) (h : aIc K P R H T m parts.toList = some (sz,l)) :
  ∃ E,l.length = m * sz ∧ m ≤ maxLen ∧ (Instr.buildSlice T m (parts.map fun (i,x) =>(i,a.eval x))).run P w = .ok (.slice (some ⟨w.heap.size,0,none⟩) m m) (w.alloc (.cells (aag ρ l).toArray E)) := by
 unfold aIc at h
 split at h
 ·rename_i E hU
  split at h
  ·rename_i inf hi
   split at h
   ·rename_i z hz
    split at h
    ·rename_i ps hps
     split at h
     ·rename_i hB
      simp only [Option.map_eq_some_iff,Prod.mk.injEq] at h
      obtain ⟨l',hl,rfl,rfl⟩ := h
      simp only [Bool.and_eq_true] at hB
      have b1 := Nat.le_of_ble_eq_true hB.1
      have b2 : 0 < m * inf.size := Nat.le_of_ble_eq_true hB.2
      obtain ⟨hf,hlen⟩ := aok s hl
      rw [apV] at hf
      have e := (aso (ρ := ρ) hps).eval r
      have hs0 : 0 < inf.size := Nat.pos_of_mul_pos_left b2
      refine ⟨E,by rw [hlen]; simp,?_,?_⟩
      ·have : m * 1 ≤ m * inf.size := Nat.mul_le_mul_left _ hs0
       unfold maxLen; omega
      ·unfold Instr.buildSlice
       rw [aaa (ack hU)]
       simp only
       have h1 : (sizeOf E).run P w = .ok inf.size w := by unfold sizeOf; rw [aaa (acf hi)]; rfl
       rw [aaa h1]
       rw [if_neg (by omega)]
       have h2 : (zeroValue E).run P w = .ok z w := by unfold zeroValue; rw [aaa (acf hi)]; simp only [hz]; rfl
       simp only [Array.toList_map,e]
       have hf' : Instr.fill (fun i =>some (i * inf.size,inf.size)) ((Array.range (m * inf.size)).map (z.cells[· % z.cells.size]!)) (ps.map fun p =>(p.1,aaw ρ p.2)) = some (aag ρ l').toArray := by
        rw [← hf,Array.toArray_toList]
       simp only [if_neg (show ¬ m * inf.size = 0 by omega)]
       rw [aaa h2]
       show (Sem.run P _ w) = _
       simp only [pure_bind,hf']
       unfold newRow newObj
       simp [Sem.run,World.alloc_eq]
     ·cases h
    ·cases h
   ·cases h
  ·cases h
 ·cases h
end
end
end Go.Proofs.YteapeojalliebaaGreat
