/- Evaluation by itself, 10: code; calls by their bodies. No program occurs here. Evaluation by itself: contracts of functions, from their bodies. No program occurs here. -/
import Derived.Test.YtclaldommncdbaaGreatDqag
import Derived.LoopNIn
import Derived.Test.YtclaldommncdbaaGreatDqae
set_option linter.all false
namespace Go.Proofs.YtclaldommncdbaaGreat
section
open Go Go.RowKit
abbrev Kt (K : KT) (α : Type) := aa6 → Nat → KT.H K → Option α
section
variable (K : KT) (P : Program)
def aA8 (R : aa6) (H : KT.H K) : List ResultVar → Option (List V)
  | [] => some []
  | .tmp t :: l => match get R t with
    | some v => match aA8 R H l with
      | some vs => some (v :: vs)
      | none => none
    | none => none
  | .cell t T :: l => match get R t with
    | some u => match ldV K P H T u with
      | some v => match aA8 R H l with
        | some vs => some (v :: vs)
        | none => none
      | none => none
    | none => none
def aBJ : List V → V
  | [v] => v
  | l => .tup l
end
inductive Hint where
  | loop (items : List Itm) (fuel ex : Nat)
  | cut (items : List Itm) (fz : List Nat)
  | loopR (items : List Itm) (fuel ex : Nat)
  | cutR (items : List Itm) (fz : List Nat)
  | close
  | unroll (k : Nat)
  | spl (t : Nat) (vals : List Nat) (k : Nat)
def ahL : Code → Option Nat
  | .region id _ _ => some id
  | .seq a b => match ahL a with
    | some i => some i
    | none => ahL b
  | .block _ c => ahL c
  | .loop c => ahL c
  | .cond _ a b => match ahL a with
    | some i => some i
    | none => ahL b
  | .scope c => ahL c
  | _ => none
def aGP : List Oper → List Nat
  | [] => []
  | o :: l => match o.dst with
    | some d => d :: aGP l
    | none => aGP l
def aii : Code → List Nat
  | .region _ ops _ => aGP ops.toList
  | .seq a b => aii a ++ aii b
  | .block _ c => aii c
  | .loop c => aii c
  | .cond _ a b => aii a ++ aii b
  | .scope c => aii c
  | _ => []
def aez (l : List Nat) : aa6 → aa6
  | [] => []
  | (t, v) :: R => match inN l t with
    | true => aez l R
    | false => (t, v) :: aez l R
def azJ (l : List Nat) : aa6 → aa6
  | [] => []
  | (t, v) :: R => match inN l t with
    | true => (t, v) :: azJ l R
    | false => azJ l R
def ajM {α : Type} (l : List Nat) : List (Nat × α) → List (Nat × α) × List (Nat × α)
  | [] => ([], [])
  | (t, v) :: R => match inN l t with
    | true => ((t, v) :: (ajM l R).1, (ajM l R).2)
    | false => ((ajM l R).1, (t, v) :: (ajM l R).2)
def lkH {T : Nat → Type} {M : Type} : List (Nat × Ch T M) → List (Nat × Ch T M)
  | [] => []
  | (t, v) :: R => match v with
    | .ro c xs => (t, .ro c xs) :: lkH R
    | .rr c xs => (t, .rr c xs) :: lkH R
    | _ => lkH R
theorem aAM {K : KT} {ρ : Env} {t : Nat} {v : Ch K.T K.M} {L : List aad} (h : (∃ c xs, v = .ro c xs) ∨ ∃ c xs, v = .rr c xs) : Ent (acA K ρ t v :: L) (acA K ρ t v :: acA K ρ t v :: L) := by
  rcases h with ⟨c, xs, rfl⟩ | ⟨c, xs, rfl⟩
  · rintro k ⟨k1, k2, a, e, ⟨h1, h2⟩, hL⟩
    exact aaM (fun _ h => ⟨h1, h⟩) (abq (fun _ => aaM fun _ h => ⟨h1, h⟩) (axa k ⟨k1, k2, a, e, h2, hL⟩))
  · rintro k ⟨k1, k2, a, e, ⟨h1, ps, h2⟩, hL⟩
    exact aaM (fun _ h => ⟨h1, ps, h⟩) (abq (fun _ => aaM fun _ h => ⟨h1, ps, h⟩) (alc k ⟨k1, k2, a, e, h2, hL⟩))
theorem aBy {K : KT} {ρ : Env} {X : List aad} : ∀ {Z : KT.H K}, Ent (dH K ρ Z ++ X) (dH K ρ (lkH Z) ++ (dH K ρ Z ++ X))
  | [] => Ent.refl
  | (t, v) :: Z => by
    have ih := aBy (K := K) (ρ := ρ) (X := X) (Z := Z)
    have one : (∃ c xs, v = .ro c xs) ∨ (∃ c xs, v = .rr c xs) → Ent (dH K ρ ((t, v) :: Z) ++ X) (dH K ρ ((t, v) :: lkH Z) ++ (dH K ρ ((t, v) :: Z) ++ X)) := fun h k hk => by
      have h1 := aAM h k (show abN (acA K ρ t v :: (dH K ρ Z ++ X)) k from hk)
      have h2 := abq (fun _ => abq (fun q hq => ih q hq)) h1
      refine abA ?_ h2
      show (acA K ρ t v :: acA K ρ t v :: (dH K ρ (lkH Z) ++ (dH K ρ Z ++ X))).Perm (acA K ρ t v :: (dH K ρ (lkH Z) ++ (acA K ρ t v :: (dH K ρ Z ++ X))))
      exact List.Perm.cons _ (List.perm_middle (l₁ := dH K ρ (lkH Z))).symm
    have none_ : Ent (dH K ρ ((t, v) :: Z) ++ X) (dH K ρ (lkH Z) ++ (dH K ρ ((t, v) :: Z) ++ X)) := fun k hk => by
      have h2 := abq (fun q hq => ih q hq) (show abN (acA K ρ t v :: (dH K ρ Z ++ X)) k from hk)
      exact abA (List.perm_middle (l₁ := dH K ρ (lkH Z))).symm h2
    unfold lkH
    split
    · exact one (.inl ⟨_, _, rfl⟩)
    · exact one (.inr ⟨_, _, rfl⟩)
    · exact none_
theorem auG {K : KT} {nt B : Nat} {W : World} {ρ : Env} {L : ac3} {Y Z H : KT.H K} {F : aad} {a : Act} {w : World} (s : Sta nt B W L (dS K ρ (Y ++ Z) H F) a w) : Sta nt B W L (dS K ρ (Y ++ Z) (H ++ lkH Y) F) a w := ⟨s.regs, s.below, s.lo, by
  have s1 : Sat B w (dH K ρ H ++ (dH K ρ (Y ++ Z) ++ [F])) := s.sat
  rw [ao3, List.append_assoc] at s1
  have s2 : Sat B w (dH K ρ Y ++ (dH K ρ H ++ (dH K ρ Z ++ [F]))) := s1.perm (ac4 _ _ _)
  have s3 := s2.imp (aBy (K := K) (ρ := ρ))
  refine s3.perm ?_
  show (dH K ρ (lkH Y) ++ (dH K ρ Y ++ (dH K ρ H ++ (dH K ρ Z ++ [F])))).Perm (dH K ρ (H ++ lkH Y) ++ (dH K ρ (Y ++ Z) ++ [F]))
  rw [ao3, ao3]; exact aas fun f g h1 h2 h3 => by simp only [h1, h2, h3]; omega⟩
def lpF {σ β : Type} (F : (σ → Option β) → σ → Option β) : Nat → σ → Option β
  | 0, _ => none
  | k + 1, x => F (lpF F k) x
def itF (S : Shp) (n : Nat) (Z : S.kt.H) (items : List Itm) {β : Type} (k : as6 S items → Option β) : Kt S.kt β := fun R _ H => match itA S n Z items R H with
  | some (x, _) => k x
  | none => none
section
variable (S : Shp) (P : Program) (call : ako S.kt) (hs : List (Nat × Hint)) (nt : Nat)
def aBH {α : Type} (body : aa6 → Nat → S.kt.H → Kt S.kt α → Option α) : Nat → Kt S.kt α
  | 0 => fun _ _ _ => none
  | k + 1 => fun R n H => body R n H (aBH body k)
def aAz {α : Type} (z : Int) (f : Nat → Option α) : List Nat → Option α
  | [] => none
  | m :: l => if z = ((m : Nat) : Int) then f m else aAz z f l
def aG7 (R : aa6) : Itm → Itm
  | .ob id c => match Nat.ble 1000000 id with
    | true => match get R (Nat.sub id 1000000) with
      | some (.ptr j _) => .ob j c
      | some (.ifc _ (.ptr j _)) => .ob j c
      | _ => .ob id c
    | false => .ob id c
  | it => it
def aC8 (R : aa6) : List Itm → List Itm
  | [] => []
  | it :: l => aG7 R it :: aC8 R l
def aGt (R : aa6) : Hint → Hint
  | .loop items fuel ex => .loop (aC8 R items) fuel ex
  | .loopR items fuel ex => .loopR (aC8 R items) fuel ex
  | h => h
def aDP (R : aa6) : List Itm → Bool
  | [] => true
  | .cx id _ :: l => match get R 0 with
    | some (.ptr j _) => Nat.beq j id && aDP R l
    | _ => false
  | _ :: l => aDP R l
def aHd (n : Nat) (Z : S.kt.H) (R : aa6) (H : S.kt.H) : Hint → Bool
  | .loop items _ _ => aDP R items && (itA S n Z items R H).isSome
  | .loopR items _ _ => aDP R items && (itA S n Z items R H).isSome
  | .cut items fz => aDP R items && (match itA S n Z items R H with
    | some (_, Hr) => Hr.all fun p => match p.2 with
      | .cells .. => fz.any (Nat.beq p.1)
      | .row .. => fz.any (Nat.beq p.1)
      | _ => true
    | none => false)
  | .cutR items fz => aDP R items && (match itA S n Z items R H with
    | some (_, Hr) => Hr.all fun p => match p.2 with
      | .cells .. => fz.any (Nat.beq p.1)
      | .row .. => fz.any (Nat.beq p.1)
      | _ => true
    | none => false)
  | _ => true
def aGU : List (Nat × Hint) → Nat → List Hint
  | [], _ => []
  | p :: l, id => match Nat.beq p.1 id with
    | true => p.2 :: aGU l id
    | false => aGU l id
def aG2 (t : Hint → Bool) : List Hint → Option Hint
  | [] => none
  | h :: l => match t h with
    | true => some h
    | false => aG2 t l
def aFi (hs : List (Nat × Hint)) (n : Nat) (Z : S.kt.H) (R : aa6) (H : S.kt.H) (id : Nat) : Option Hint := match aGU hs id with
  | [] => none
  | [h] => some h
  | l => aG2 (aHd S n Z R H) l
def aGs (hs : List (Nat × Hint)) (n : Nat) (Z : S.kt.H) (R : aa6) (H : S.kt.H) (id : Nat) : Option Hint := match aFi S hs n Z R H id with
  | some h => some (aGt R h)
  | none => none
def aDF (hs : List (Nat × Hint)) (id : Nat) (H : S.kt.H) : S.kt.H := match get hs id with
  | some .close => aF0 S.kt H
  | _ => H
noncomputable def ev : Code → (α : Type) → (C : aa6) → (Z : S.kt.H) → aa6 → Nat → S.kt.H → Kt S.kt α → (Nat → Kt S.kt α) → Kt S.kt α → Option α
  | .skip, _, _, _, R, n, H, kn, _, _ => kn R n H
  | .region id ops d, _, C, Z, R, n, H, kn, _, _ => match d with
    | false => rtE S.kt P call ops nt C Z ops.toList R n (aDF S hs id H) kn
    | true => axn ops.toList 0 fun L => match okM ops L with
      | true => atE S.kt P call ops nt C Z L ops.size 0 [] R n (aDF S hs id H) kn
      | false => none
  | .seq x y, α, C, Z, R, n, H, kn, ke, kr => match (ahL y).bind (aFi S hs n Z (R ++ C) H) with
    | some (.cut items fz) => match Nat.ble (auA (aez (aii x) R ++ C)) n && Nat.ble (ae8 ((ajM fz H).1 ++ Z)) n with
      | true => (ev x (as6 S items) (aez (aii x) R ++ C) ((ajM fz H).1 ++ Z) (azJ (aii x) R) n ((ajM fz H).2 ++ lkH (ajM fz H).1) (itF S n ((ajM fz H).1 ++ Z) items some) (fun _ _ _ _ => none) (fun _ _ _ => none)).bind fun z =>
        ev y α C Z ((itB S items z n).1 ++ aez (aii x) R) (itB S items z n).2.2 ((itB S items z n).2.1 ++ (ajM fz H).1) kn ke kr
      | false => none
    | some (.cutR items fz) => match Nat.ble (auA (aez (aii x) R ++ C)) n && Nat.ble (ae8 ((ajM fz H).1 ++ Z)) n with
      | true => (ev x (as6 S items ⊕ α) (aez (aii x) R ++ C) ((ajM fz H).1 ++ Z) (azJ (aii x) R) n ((ajM fz H).2 ++ lkH (ajM fz H).1) (itF S n ((ajM fz H).1 ++ Z) items (fun z => some (.inl z))) (fun j R' n' H' => (ke j (R' ++ aez (aii x) R) n' (H' ++ (ajM fz H).1)).map .inr) (fun R' n' H' => (kr (R' ++ aez (aii x) R) n' (H' ++ (ajM fz H).1)).map .inr)).bind fun z => match z with
        | .inl z => ev y α C Z ((itB S items z n).1 ++ aez (aii x) R) (itB S items z n).2.2 ((itB S items z n).2.1 ++ (ajM fz H).1) kn ke kr
        | .inr o => some o
      | false => none
    | _ => ev x α C Z R n H (fun R n H => ev y α C Z R n H kn ke kr) ke kr
  | .cond c x y, α, C, Z, R, n, H, kn, ke, kr => match evO (R ++ C) c with
    | some (.t b) => match b with
      | true => ev x α C Z R n H kn ke kr
      | false => ev y α C Z R n H kn ke kr
    | some (.p Q d) => @ite _ Q d (ev x α C Z R n H kn ke kr) (ev y α C Z R n H kn ke kr)
    | some (.b b) => if b = true then ev x α C Z R n H kn ke kr else ev y α C Z R n H kn ke kr
    | _ => none
  | .block id c, α, C, Z, R, n, H, kn, ke, kr => ev c α C Z R n H kn (fun j => match Nat.beq j id with | true => kn | false => ke j) kr
  | .loop c, α, C, Z, R, n, H, _, ke, kr => match (ahL c).bind (aGs S hs n Z (R ++ C) H) with
    | some (.loopR items fuel ex) => match itA S n Z items R H with
      | some (x0, Hr) => match Nat.ble (auA (aez (aii c) R ++ C)) n && Nat.ble (ae8 (Hr ++ Z)) n with
        | true => (lpF (fun self x => ev c (as6 S items ⊕ α) (aez (aii c) R ++ C) (Hr ++ Z) (itB S items x n).1 (itB S items x n).2.2 ((itB S items x n).2.1 ++ lkH Hr) (itF S n (Hr ++ Z) items self)
            (fun j => match Nat.beq j ex with | true => itF S n (Hr ++ Z) items (fun z => some (.inl z)) | false => fun R' n' H' => (ke j (R' ++ aez (aii c) R) n' (H' ++ Hr)).map .inr) (fun R' n' H' => (kr (R' ++ aez (aii c) R) n' (H' ++ Hr)).map .inr)) fuel x0).bind fun z => match z with
          | .inl z => ke ex ((itB S items z n).1 ++ aez (aii c) R) (itB S items z n).2.2 ((itB S items z n).2.1 ++ Hr)
          | .inr o => some o
        | false => none
      | none => none
    | some (.loop items fuel ex) => match itA S n Z items R H with
      | some (x0, Hr) => match Nat.ble (auA (aez (aii c) R ++ C)) n && Nat.ble (ae8 (Hr ++ Z)) n with
        | true => (lpF (fun self x => ev c (as6 S items) (aez (aii c) R ++ C) (Hr ++ Z) (itB S items x n).1 (itB S items x n).2.2 ((itB S items x n).2.1 ++ lkH Hr) (itF S n (Hr ++ Z) items self)
            (fun j => match Nat.beq j ex with | true => itF S n (Hr ++ Z) items some | false => fun _ _ _ => none) (fun _ _ _ => none)) fuel x0).bind fun z =>
          ke ex ((itB S items z n).1 ++ aez (aii c) R) (itB S items z n).2.2 ((itB S items z n).2.1 ++ Hr)
        | false => none
      | none => none
    | some (.unroll k) => aBH S (fun R n H kn => ev c α C Z R n H kn ke kr) k R n H
    | some (.spl t vals k) => match get R t with
      | some (.i kk z) => aAz z (fun m => aBH S (fun R n H kn => ev c α C Z R n H kn ke kr) k ((t, .l kk ((m : Nat) : Int)) :: del R t) n H) vals
      | _ => none
    | _ => none
  | .exit id, _, _, _, R, n, H, _, ke, _ => ke id R n H
  | .ret, _, _, _, R, n, H, _, _, kr => kr R n H
  | _, _, _, _, _, _, _, _, _, _ => none
end
theorem avq {α : Type} {z : Int} {f : Nat → Option α} {out : α} : ∀ {l : List Nat}, aAz z f l = some out → ∃ m : Nat, z = ((m : Nat) : Int) ∧ f m = some out
  | [], h => by cases h
  | m :: l, h => by
    unfold aAz at h
    split at h
    · rename_i e; exact ⟨m, e, h⟩
    · exact avq h
section
variable {S : Shp} {P : Program} {call : ako S.kt} {hs : List (Nat × Hint)} {nt B : Nat} {W : World} {F : aad}
theorem azE {ρ : Env} {R C : aa6} {t : Nat} {kk : IntKind} {z : Int} {m : Nat} {a : Act} (hg : get R t = some (.i kk z)) (hz : z = ((m : Nat) : Int)) (r : Regs nt a (dR ρ (R ++ C))) : Regs nt a (dR ρ (((t, .l kk ((m : Nat) : Int)) :: del R t) ++ C)) := by
  refine ⟨r.size, r.defers, fun p hp => ?_⟩
  obtain ⟨q, hq, rfl⟩ := List.mem_map.1 hp
  rcases List.mem_append.1 hq with h1 | h1
  · rcases List.mem_cons.1 h1 with e1 | e1
    · subst e1
      have := r.has _ (ajV (ρ := ρ) (aqU hg))
      rw [hz] at this
      exact this
    · exact r.has _ (List.mem_map.2 ⟨q, List.mem_append_left _ (ahM e1).1, rfl⟩)
  · exact r.has _ (List.mem_map.2 ⟨q, List.mem_append_right _ h1, rfl⟩)
theorem aqm {ρ : Env} {R C : aa6} {a : Act} (h1 : ∀ p ∈ dR ρ R, a.tmps[p.1]? = some p.2) (h2 : Regs nt a (dR ρ C)) : Regs nt a (dR ρ (R ++ C)) := ⟨h2.size, h2.defers, fun p hp => by
  unfold dR at hp; rw [List.map_append] at hp
  exact (List.mem_append.1 hp).elim (h1 p) (h2.has p)⟩
theorem aA9 {ρ : Env} {R C : aa6} {a : Act} (h : Regs nt a (dR ρ (R ++ C))) : Regs nt a (dR ρ C) := h.sub fun p hp => by unfold dR; rw [List.map_append]; exact List.mem_append_right _ hp
theorem ar2 {ρ : Env} {R C : aa6} {a : Act} (h : Regs nt a (dR ρ (R ++ C))) : Regs nt a (dR ρ R) := h.sub fun p hp => by unfold dR; rw [List.map_append]; exact List.mem_append_left _ hp
theorem aoO {l : List Nat} {p : Nat × V} : ∀ {R : aa6}, p ∈ aez l R → p ∈ R
  | [], h => by cases h
  | (t, v) :: R, h => by
    unfold aez at h
    split at h
    · exact List.mem_cons_of_mem _ (aoO h)
    · exact (List.mem_cons.1 h).elim (fun e => by subst e; exact List.mem_cons_self ..) (fun h => List.mem_cons_of_mem _ (aoO h))
theorem aqf {l : List Nat} {p : Nat × V} : ∀ {R : aa6}, p ∈ azJ l R → p ∈ R
  | [], h => by cases h
  | (t, v) :: R, h => by
    unfold azJ at h
    split at h
    · exact (List.mem_cons.1 h).elim (fun e => by subst e; exact List.mem_cons_self ..) (fun h => List.mem_cons_of_mem _ (aqf h))
    · exact List.mem_cons_of_mem _ (aqf h)
theorem aoj {ρ : Env} {l : List Nat} {R C : aa6} {a : Act} (h : Regs nt a (dR ρ (R ++ C))) : Regs nt a (dR ρ (aez l R ++ C)) := aqm (fun p hp => by
  obtain ⟨q, hq, rfl⟩ := List.mem_map.1 hp
  exact (ar2 h).has _ (List.mem_map.2 ⟨q, aoO hq, rfl⟩)) (aA9 h)
theorem auP {ρ : Env} {l : List Nat} {R C : aa6} {a : Act} (h : Regs nt a (dR ρ (R ++ C))) : Regs nt a (dR ρ (azJ l R ++ (aez l R ++ C))) := aqm (fun p hp => by
  obtain ⟨q, hq, rfl⟩ := List.mem_map.1 hp
  exact (ar2 h).has _ (List.mem_map.2 ⟨q, aqf hq, rfl⟩)) (aoj h)
theorem akA {ρ : Env} {l : List Nat} : ∀ {H : S.kt.H}, (dH S.kt ρ H).Perm (dH S.kt ρ (ajM l H).2 ++ dH S.kt ρ (ajM l H).1)
  | [] => .refl _
  | (t, v) :: H => by
    unfold ajM
    split
    · exact ((akA (H := H)).cons _).trans (List.perm_middle).symm
    · exact (akA (H := H)).cons _
theorem aqR {n : Nat} {ρ0 ρ1 : Env} {items : List Itm} {x : as6 S items} {C : aa6} {Z : S.kt.H} {a : Act} {w : World} (h0 : aaA n ρ0 ρ1) (ok : apR n items = true) (hC : auA C ≤ n) (hZ : ae8 Z ≤ n) (s : Sat B w (IS S ρ0 a items x ++ tl S.kt Z F ρ1)) (r : Regs nt a (dR ρ1 C)) (hb : Below B W w) (hl : B ≤ w.heap.size) :
    ∃ ρ', aaA n ρ0 ρ' ∧ n ≤ (itB S items x n).2.2 ∧ Sta nt B W (dR ρ' ((itB S items x n).1 ++ C)) (dS S.kt ρ' Z (itB S items x n).2.1 F) a w := by
  obtain ⟨ρ2, a2, n2, r2, s2⟩ := aoQ (l := items) (n := n) (X := tl S.kt Z F) ok (Nat.le_refl _) h0 (fun ρ ρ' ha => ac5 hZ ha) s
  exact ⟨ρ2, h0.trans a2 (Nat.le_refl _), n2, ⟨aqm r2 (by rw [← abY a2 C hC]; exact r), hb, hl, s2⟩⟩
theorem amk {n : Nat} {ρ0 ρ1 : Env} {items : List Itm} {x : as6 S items} {C R : aa6} {Z H H' : S.kt.H} {a : Act} {w : World} (h : itA S n Z items R H = some (x, H')) (h0 : aaA n ρ0 ρ1) (hC : auA C ≤ n) (hZ : ae8 Z ≤ n) (s : Sta nt B W (dR ρ1 (R ++ C)) (dS S.kt ρ1 Z H F) a w) :
    ∃ ρ', aaA n ρ0 ρ' ∧ n ≤ (itB S items x n).2.2 ∧ Sta nt B W (dR ρ' ((itB S items x n).1 ++ C)) (dS S.kt ρ' Z (itB S items x n).2.1 F) a w := by
  obtain ⟨ok, s1⟩ := axW (nt := nt) (a := a) h0 h (ar2 s.regs) (X := [F]) s.sat
  have s2 : Sat B w (dH S.kt ρ1 H' ++ (IS S ρ0 a items x ++ (dH S.kt ρ1 Z ++ [F]))) := s1.perm (ac4 _ _ _)
  exact aqR h0 ok hC hZ (s2.imp fun _ => agn) (aA9 s.regs) s.below s.lo
theorem apz {ρ : Env} {R R' C : aa6} {Z H H' : S.kt.H} {a : Act} {w : World} (s : Sta nt B W (dR ρ (R' ++ (R ++ C))) (dS S.kt ρ (H ++ Z) H' F) a w) : Sta nt B W (dR ρ ((R' ++ R) ++ C)) (dS S.kt ρ Z (H' ++ H) F) a w := ⟨by rw [List.append_assoc]; exact s.regs, s.below, s.lo, s.sat.perm (by
  show (dH S.kt ρ H' ++ (dH S.kt ρ (H ++ Z) ++ [F])).Perm (dH S.kt ρ (H' ++ H) ++ (dH S.kt ρ Z ++ [F]))
  rw [dHa, dHa]; exact aas fun f g h1 h2 h3 => by simp only [h1, h2, h3]; omega)⟩
theorem aqN {α β : Type} {o : Option β} {z : α ⊕ β} (h : o.map Sum.inr = some z) : ∃ y, o = some y ∧ z = .inr y := by
  cases o with
  | none => cases h
  | some y => exact ⟨y, rfl, (Option.some.inj h).symm⟩
theorem ajo {n : Nat} {Z : S.kt.H} {items : List Itm} {β : Type} {k : as6 S items → Option β} {R : aa6} {m : Nat} {H : S.kt.H} {z : β} (h : itF S n Z items k R m H = some z) : ∃ x H', itA S n Z items R H = some (x, H') ∧ k x = some z := by
  unfold itF at h
  split at h
  · rename_i x H' hx; exact ⟨x, H', hx, h⟩
  · cases h
theorem aae {α β : Type} {x : Option α} {f : α → Option β} {o : β} (h : x.bind f = some o) : ∃ z, x = some z ∧ f z = some o := by
  cases x with
  | none => cases h
  | some z => exact ⟨z, rfl, h⟩
theorem ayA {ρ : Env} {w : World} {X : List aad} {id : Nat} {H : S.kt.H} (s : Sat B w (dH S.kt ρ H ++ X)) : Sat B w (dH S.kt ρ (aDF S hs id H) ++ X) := by
  unfold aDF
  split
  · exact arb s
  · exact s
theorem aih (hm : P.follows .mixedOrders = true) (hc : aj2 S.kt P B W call) : ∀ (c : Code) {α : Type} {out : α} {C : aa6} {Z : S.kt.H} {R : aa6} {n : Nat} {H : S.kt.H} {kn : Kt S.kt α} {ke : Nat → Kt S.kt α} {kr : Kt S.kt α} {Q : Exit → Act → World → Prop} {ρ : Env},
    ev S P call hs nt c α C Z R n H kn ke kr = some out → KOk S.kt Q nt B W C Z F out .normal ρ n kn → (∀ j, KOk S.kt Q nt B W C Z F out (.exit j) ρ n (ke j)) → KOk S.kt Q nt B W C Z F out .ret ρ n kr →
    CT none P Q nt B W c (dR ρ (R ++ C)) (dS S.kt ρ Z H F)
  | .skip, α, out, C, Z, R, n, H, kn, ke, kr, Q, ρ, h, hn, _, _ => aDA (hn _ _ _ _ (aaA.refl _ _) (Nat.le_refl _) h)
  | .region id ops d, α, out, C, Z, R, n, H, kn, ke, kr, Q, ρ, h, hn, _, _ => by
    cases d with
    | false =>
      have := ayw (id := id) (aw4 (r := none) (ops := ops) (Q := Q) hc (show rtE S.kt P call ops nt C Z ops.toList R n (aDF S hs id H) kn = some out from h) hn)
      exact fun a w s => this a w ⟨s.regs, s.below, s.lo, ayA s.sat⟩
    | true =>
      intro a w s
      have h1 : (Code.region id ops true).wpIn (rf none) 0 P (NP Q) a w := by
        refine wpIn_region_any hm ?_
        have s0 : Sta nt B W (dR ρ (R ++ C)) (dS S.kt ρ Z (aDF S hs id H) F) a w := ⟨s.regs, s.below, s.lo, ayA s.sat⟩
        have s' := (aAT s0.cls).st s0.regs
        have h0 : (axn ops.toList 0 fun L => match okM ops L with
          | true => atE S.kt P call ops nt C Z L ops.size 0 [] R n (aDF S hs id H) kn
          | false => none) = some out := h
        rw [auV] at h0
        split at h0
        · rename_i hok
          exact avP _ _ _ _ (alD rfl hok (Ob := fun _ _ _ => True) hc RelM.none auc (fun _ h => by cases h) h0 hn (fun _ _ => trivial) (fun _ h => by cases h) (fun _ _ _ _ => trivial) _ _ s')
        · cases h0
      exact wpIn_mono h1 fun e a' w' hq => by cases e <;> first | exact hq | exact hq.elim
  | .seq x y, α, out, C, Z, R, n, H, kn, ke, kr, Q, ρ, h, hn, he, hr => by
    unfold ev at h
    split at h
    · rename_i items fz _
      split at h
      · rename_i hB
        simp only [Bool.and_eq_true] at hB
        have hC := Nat.le_of_ble_eq_true hB.1
        have hZ := Nat.le_of_ble_eq_true hB.2
        obtain ⟨z, hz, h2⟩ := aae h
        refine ayv fun a w s => ?_
        have s' : Sta nt B W (dR ρ (azJ (aii x) R ++ (aez (aii x) R ++ C))) (dS S.kt ρ ((ajM fz H).1 ++ Z) (ajM fz H).2 F) a w := ⟨auP s.regs, s.below, s.lo, s.sat.perm (by
          show (dH S.kt ρ H ++ (dH S.kt ρ Z ++ [F])).Perm (dH S.kt ρ (ajM fz H).2 ++ (dH S.kt ρ ((ajM fz H).1 ++ Z) ++ [F]))
          rw [dHa]
          exact ((akA (l := fz)).append_right _).trans (aas fun f g h1 h2 h3 => by simp only [h1, h2, h3]; omega))⟩
        refine aih hm hc x (out := z) (Q := Exit.then (y.wpIn (rf none) 0 P Q) Q) hz ?_ ?_ ?_ a w (auG s')
        · intro ρ' R' n' H' ha hle hk a' w' s2
          obtain ⟨x', H'', hA, hx⟩ := ajo hk
          obtain rfl : x' = z := Option.some.inj hx
          obtain ⟨ρ2, a2, n2, s3⟩ := amk hA ha hC hZ s2
          have s4 : Sta nt B W (dR ρ2 (((itB S items x' n).1 ++ aez (aii x) R) ++ C)) (dS S.kt ρ2 Z ((itB S items x' n).2.1 ++ (ajM fz H).1) F) a' w' := ⟨by rw [List.append_assoc]; exact s3.regs, s3.below, s3.lo, s3.sat.perm (by
            show (dH S.kt ρ2 (itB S items x' n).2.1 ++ (dH S.kt ρ2 ((ajM fz H).1 ++ Z) ++ [F])).Perm (dH S.kt ρ2 ((itB S items x' n).2.1 ++ (ajM fz H).1) ++ (dH S.kt ρ2 Z ++ [F]))
            rw [dHa, dHa]; exact aas fun f g h1 h2 h3 => by simp only [h1, h2, h3]; omega)⟩
          exact aih hm hc y h2 (hn.from a2 n2) (fun j => (he j).from a2 n2) (hr.from a2 n2) a' w' s4
        · exact fun j ρ' R' n' H' ha hle hk => by cases hk
        · exact fun ρ' R' n' H' ha hle hk => by cases hk
      · cases h
    · rename_i items fz _
      split at h
      · rename_i hB
        simp only [Bool.and_eq_true] at hB
        have hC := Nat.le_of_ble_eq_true hB.1
        have hZ := Nat.le_of_ble_eq_true hB.2
        obtain ⟨z, hz, h2⟩ := aae h
        refine ayv fun a w s => ?_
        have s' : Sta nt B W (dR ρ (azJ (aii x) R ++ (aez (aii x) R ++ C))) (dS S.kt ρ ((ajM fz H).1 ++ Z) (ajM fz H).2 F) a w := ⟨auP s.regs, s.below, s.lo, s.sat.perm (by
          show (dH S.kt ρ H ++ (dH S.kt ρ Z ++ [F])).Perm (dH S.kt ρ (ajM fz H).2 ++ (dH S.kt ρ ((ajM fz H).1 ++ Z) ++ [F]))
          rw [dHa]
          exact ((akA (l := fz)).append_right _).trans (aas fun f g h1 h2 h3 => by simp only [h1, h2, h3]; omega))⟩
        refine aih hm hc x (out := z) (Q := Exit.then (y.wpIn (rf none) 0 P Q) Q) hz ?_ ?_ ?_ a w (auG s')
        · intro ρ' R' n' H' ha hle hk a' w' s2
          obtain ⟨x', H'', hA, hx⟩ := ajo hk
          obtain rfl : .inl x' = z := Option.some.inj hx
          obtain ⟨ρ2, a2, n2, s3⟩ := amk hA ha hC hZ s2
          exact aih hm hc y h2 (hn.from a2 n2) (fun j => (he j).from a2 n2) (hr.from a2 n2) a' w' (apz s3)
        · intro j ρ' R' n' H' ha hle hk a' w' s2
          obtain ⟨o, ho, rfl⟩ := aqN hk
          obtain rfl : o = out := Option.some.inj h2
          exact amS (he j ρ' _ n' _ ha hle ho) a' w' (apz s2)
        · intro ρ' R' n' H' ha hle hk a' w' s2
          obtain ⟨o, ho, rfl⟩ := aqN hk
          obtain rfl : o = out := Option.some.inj h2
          exact aoZ (hr ρ' _ n' _ ha hle ho) a' w' (apz s2)
      · cases h
    · refine ayv (aih hm hc x (Q := Exit.then (y.wpIn (rf none) 0 P Q) Q) h ?_ ?_ ?_)
      · intro ρ' R' n' H' ha hle hk
        exact aDu (aih hm hc y hk (hn.from ha hle) (fun j => (he j).from ha hle) (hr.from ha hle))
      · exact fun j ρ' R' n' H' ha hle hk => amS (he j ρ' R' n' H' ha hle hk)
      · exact fun ρ' R' n' H' ha hle hk => aoZ (hr ρ' R' n' H' ha hle hk)
  | .cond c x y, α, out, C, Z, R, n, H, kn, ke, kr, Q, ρ, h, hn, he, hr => by
    unfold ev at h
    split at h
    · rename_i b hb
      have hb' := aaO (ρ := ρ) hb
      cases b with
      | true => exact aDz hb' (aih hm hc x h hn he hr)
      | false => exact aAN hb' (aih hm hc y h hn he hr)
    · rename_i q d hb
      have hb' := aaO (ρ := ρ) hb
      refine @aGQ _ _ _ _ _ _ _ _ _ _ _ q d hb' (fun hp => ?_) (fun hp => ?_)
      · rw [if_pos hp] at h; exact aih hm hc x h hn he hr
      · rw [if_neg hp] at h; exact aih hm hc y h hn he hr
    · rename_i b hb
      have hb' := aaO (ρ := ρ) hb
      refine aFB hb' (fun hp => ?_) (fun hp => ?_)
      · rw [if_pos hp] at h; exact aih hm hc x h hn he hr
      · rw [if_neg (by rw [hp]; exact Bool.false_ne_true)] at h; exact aih hm hc y h hn he hr
    · cases h
  | .block id c, α, out, C, Z, R, n, H, kn, ke, kr, Q, ρ, h, hn, he, hr => by
    refine aAO (aih hm hc c (Q := Exit.inBlock id Q) (show ev S P call hs nt c α C Z R n H kn (fun j => match Nat.beq j id with | true => kn | false => ke j) kr = some out from h) ?_ ?_ ?_)
    · exact fun ρ' R' n' H' ha hle hk => aAF (hn ρ' R' n' H' ha hle hk)
    · intro j ρ' R' n' H' ha hle hk
      have hk' : (match Nat.beq j id with | true => kn | false => ke j) R' n' H' = some out := hk
      cases e : Nat.beq j id with
      | true =>
        rw [e] at hk'
        obtain rfl := Nat.eq_of_beq_eq_true e
        exact aq4 (hn ρ' R' n' H' ha hle hk')
      | false =>
        rw [e] at hk'
        exact aq3 (by rw [beq_eq_false_iff_ne]; intro hj; subst hj; have := Nat.beq_refl j; rw [e] at this; cases this) (he j ρ' R' n' H' ha hle hk')
    · exact fun ρ' R' n' H' ha hle hk => asI (hr ρ' R' n' H' ha hle hk)
  | .exit id, α, out, C, Z, R, n, H, kn, ke, kr, Q, ρ, h, _, he, _ => aDB (he id _ _ _ _ (aaA.refl _ _) (Nat.le_refl _) h)
  | .ret, α, out, C, Z, R, n, H, kn, ke, kr, Q, ρ, h, _, _, hr => aFA (hr _ _ _ _ (aaA.refl _ _) (Nat.le_refl _) h)
  | .loop c, α, out, C, Z, R, n, H, kn, ke, kr, Q, ρ, h, hn, he, hr => by
    unfold ev at h
    split at h
    · rename_i items fuel ex _
      split at h
      · rename_i x0 Hr hx0
        split at h
        · rename_i hB
          simp only [Bool.and_eq_true] at hB
          have hC := Nat.le_of_ble_eq_true hB.1
          have hZ := Nat.le_of_ble_eq_true hB.2
          obtain ⟨z, hz, h2⟩ := aae h
          intro a w s
          obtain ⟨ok, s1⟩ := axW (nt := nt) (a := a) (aaA.refl n ρ) hx0 (ar2 s.regs) (X := [F]) s.sat
          have s1' : Sat B w (IS S ρ a items x0 ++ tl S.kt (Hr ++ Z) F ρ) := by unfold tl; rw [dHa, List.append_assoc]; exact s1
          have J0 := aqR (nt := nt) (aaA.refl n ρ) ok hC hZ s1' (aoj (l := aii c) s.regs) s.below s.lo
          refine aim (fun k a w => ∃ x, lpF _ k x = some z ∧ ∃ ρ', aaA n ρ ρ' ∧ n ≤ (itB S items x n).2.2 ∧ Sta nt B W (dR ρ' ((itB S items x n).1 ++ (aez (aii c) R ++ C))) (dS S.kt ρ' (Hr ++ Z) (itB S items x n).2.1 F) a w) fuel ⟨x0, hz, J0⟩ ?_
          rintro m a' w' ⟨x, hx, ρ1, a1, n1, s2⟩
          cases m with
          | zero => cases hx
          | succ k =>
            refine aih hm hc c (out := z) (Q := Exit.then (fun a' w' => ∃ m', m' < k + 1 ∧ ∃ x, lpF _ m' x = some z ∧ ∃ ρ', aaA n ρ ρ' ∧ n ≤ (itB S items x n).2.2 ∧ Sta nt B W (dR ρ' ((itB S items x n).1 ++ (aez (aii c) R ++ C))) (dS S.kt ρ' (Hr ++ Z) (itB S items x n).2.1 F) a' w') Q) hx ?_ ?_ ?_ a' w' (auG s2)
            · intro ρ2 R' n' H' ha hle hk a2 w2 s3
              obtain ⟨x', H'', hA, hx'⟩ := ajo hk
              exact ⟨k, Nat.lt_succ_self k, x', hx', amk hA (a1.trans ha n1) hC hZ s3⟩
            · intro j ρ2 R' n' H' ha hle hk a2 w2 s3
              have hk' : (match Nat.beq j ex with | true => itF S n (Hr ++ Z) items (fun z => some (Sum.inl z)) | false => fun R' n' H' => (ke j (R' ++ aez (aii c) R) n' (H' ++ Hr)).map (Sum.inr : α → as6 S items ⊕ α)) R' n' H' = some z := hk
              cases e : Nat.beq j ex with
              | true =>
                rw [e] at hk'
                obtain rfl := Nat.eq_of_beq_eq_true e
                obtain ⟨x', H'', hA, hx'⟩ := ajo hk'
                obtain rfl : .inl x' = z := Option.some.inj hx'
                obtain ⟨ρ3, a3, n3, s4⟩ := amk hA (a1.trans ha n1) hC hZ s3
                exact he j ρ3 _ _ _ a3 n3 h2 a2 w2 (apz s4)
              | false =>
                rw [e] at hk'
                obtain ⟨o, ho, rfl⟩ := aqN hk'
                obtain rfl : o = out := Option.some.inj h2
                exact he j ρ2 _ n' _ (a1.trans ha n1) (Nat.le_trans n1 hle) ho a2 w2 (apz s3)
            · intro ρ2 R' n' H' ha hle hk a2 w2 s3
              obtain ⟨o, ho, rfl⟩ := aqN hk
              obtain rfl : o = out := Option.some.inj h2
              exact hr ρ2 _ n' _ (a1.trans ha n1) (Nat.le_trans n1 hle) ho a2 w2 (apz s3)
        · cases h
      · cases h
    · rename_i items fuel ex _
      split at h
      · rename_i x0 Hr hx0
        split at h
        · rename_i hB
          simp only [Bool.and_eq_true] at hB
          have hC := Nat.le_of_ble_eq_true hB.1
          have hZ := Nat.le_of_ble_eq_true hB.2
          obtain ⟨z, hz, h2⟩ := aae h
          intro a w s
          obtain ⟨ok, s1⟩ := axW (nt := nt) (a := a) (aaA.refl n ρ) hx0 (ar2 s.regs) (X := [F]) s.sat
          have s1' : Sat B w (IS S ρ a items x0 ++ tl S.kt (Hr ++ Z) F ρ) := by unfold tl; rw [dHa, List.append_assoc]; exact s1
          have J0 := aqR (nt := nt) (aaA.refl n ρ) ok hC hZ s1' (aoj (l := aii c) s.regs) s.below s.lo
          refine aim (fun k a w => ∃ x, lpF _ k x = some z ∧ ∃ ρ', aaA n ρ ρ' ∧ n ≤ (itB S items x n).2.2 ∧ Sta nt B W (dR ρ' ((itB S items x n).1 ++ (aez (aii c) R ++ C))) (dS S.kt ρ' (Hr ++ Z) (itB S items x n).2.1 F) a w) fuel ⟨x0, hz, J0⟩ ?_
          rintro m a' w' ⟨x, hx, ρ1, a1, n1, s2⟩
          cases m with
          | zero => cases hx
          | succ k =>
            refine aih hm hc c (out := z) (Q := Exit.then (fun a' w' => ∃ m', m' < k + 1 ∧ ∃ x, lpF _ m' x = some z ∧ ∃ ρ', aaA n ρ ρ' ∧ n ≤ (itB S items x n).2.2 ∧ Sta nt B W (dR ρ' ((itB S items x n).1 ++ (aez (aii c) R ++ C))) (dS S.kt ρ' (Hr ++ Z) (itB S items x n).2.1 F) a' w') Q) hx ?_ ?_ ?_ a' w' (auG s2)
            · intro ρ2 R' n' H' ha hle hk a2 w2 s3
              obtain ⟨x', H'', hA, hx'⟩ := ajo hk
              exact ⟨k, Nat.lt_succ_self k, x', hx', amk hA (a1.trans ha n1) hC hZ s3⟩
            · intro j ρ2 R' n' H' ha hle hk a2 w2 s3
              have hk' : (match Nat.beq j ex with | true => itF S n (Hr ++ Z) items some | false => fun _ _ _ => none) R' n' H' = some z := hk
              cases e : Nat.beq j ex with
              | true =>
                rw [e] at hk'
                obtain rfl := Nat.eq_of_beq_eq_true e
                obtain ⟨x', H'', hA, hx'⟩ := ajo hk'
                obtain rfl : x' = z := Option.some.inj hx'
                obtain ⟨ρ3, a3, n3, s4⟩ := amk hA (a1.trans ha n1) hC hZ s3
                refine he j ρ3 _ _ _ a3 n3 h2 a2 w2 ⟨by rw [List.append_assoc]; exact s4.regs, s4.below, s4.lo, s4.sat.perm ?_⟩
                show (dH S.kt ρ3 (itB S items x' n).2.1 ++ (dH S.kt ρ3 (Hr ++ Z) ++ [F])).Perm (dH S.kt ρ3 ((itB S items x' n).2.1 ++ Hr) ++ (dH S.kt ρ3 Z ++ [F]))
                rw [dHa, dHa]; exact aas fun f g h1 h2 h3 => by simp only [h1, h2, h3]; omega
              | false =>
                rw [e] at hk'
                cases hk'
            · exact fun ρ2 R' n' H' ha hle hk => by cases hk
        · cases h
      · cases h
    · rename_i k _
      intro a w s
      refine wpIn_loop_rounds k ?_
      suffices key : ∀ (k : Nat) {R : aa6} {n : Nat} {H : S.kt.H} {ρ : Env} {a : Act} {w : World}, aBH S (fun R n H kn => ev S P call hs nt c α C Z R n H kn ke kr) k R n H = some out → (∀ j, KOk S.kt Q nt B W C Z F out (.exit j) ρ n (ke j)) → KOk S.kt Q nt B W C Z F out .ret ρ n kr →
          Sta nt B W (dR ρ (R ++ C)) (dS S.kt ρ Z H F) a w → Code.roundsIn (rf none) 0 P c Q k a w from key k h he hr s
      intro k
      induction k with
      | zero => intro R n H ρ a w h _ _ _; cases h
      | succ k ih =>
        intro R n H ρ a w h he hr s
        rw [roundsIn_succ]
        refine aih hm hc c (Q := Exit.then (Code.roundsIn (rf none) 0 P c Q k) Q) (show ev S P call hs nt c α C Z R n H (aBH S (fun R n H kn => ev S P call hs nt c α C Z R n H kn ke kr) k) ke kr = some out from h) ?_ ?_ ?_ a w s
        · exact fun ρ' R' n' H' ha hle hk a' w' s' => ih hk (fun j => (he j).from ha hle) (hr.from ha hle) s'
        · exact fun j ρ' R' n' H' ha hle hk a' w' s' => he j ρ' R' n' H' ha hle hk a' w' s'
        · exact fun ρ' R' n' H' ha hle hk a' w' s' => hr ρ' R' n' H' ha hle hk a' w' s'
    · rename_i t vals k _
      split at h
      · rename_i kk z hgt
        obtain ⟨m, hz, h⟩ := avq h
        intro a w s
        refine wpIn_loop_rounds k ?_
        suffices key : ∀ (k : Nat) {R : aa6} {n : Nat} {H : S.kt.H} {ρ : Env} {a : Act} {w : World}, aBH S (fun R n H kn => ev S P call hs nt c α C Z R n H kn ke kr) k R n H = some out → (∀ j, KOk S.kt Q nt B W C Z F out (.exit j) ρ n (ke j)) → KOk S.kt Q nt B W C Z F out .ret ρ n kr →
            Sta nt B W (dR ρ (R ++ C)) (dS S.kt ρ Z H F) a w → Code.roundsIn (rf none) 0 P c Q k a w from key k h he hr ⟨azE hgt hz s.regs, s.below, s.lo, s.sat⟩
        intro k
        induction k with
        | zero => intro R n H ρ a w h _ _ _; cases h
        | succ k ih =>
          intro R n H ρ a w h he hr s
          rw [roundsIn_succ]
          refine aih hm hc c (Q := Exit.then (Code.roundsIn (rf none) 0 P c Q k) Q) (show ev S P call hs nt c α C Z R n H (aBH S (fun R n H kn => ev S P call hs nt c α C Z R n H kn ke kr) k) ke kr = some out from h) ?_ ?_ ?_ a w s
          · exact fun ρ' R' n' H' ha hle hk a' w' s' => ih hk (fun j => (he j).from ha hle) (hr.from ha hle) s'
          · exact fun j ρ' R' n' H' ha hle hk a' w' s' => he j ρ' R' n' H' ha hle hk a' w' s'
          · exact fun ρ' R' n' H' ha hle hk a' w' s' => hr ρ' R' n' H' ha hle hk a' w' s'
      · cases h
    · cases h
  | .rangeFunc .., _, _, _, _, _, _, _, _, _, _, _, _, h, _, _, _ => by cases h
  | .scope _, _, _, _, _, _, _, _, _, _, _, _, _, h, _, _, _ => by cases h
  | .label _, _, _, _, _, _, _, _, _, _, _, _, _, h, _, _, _ => by cases h
  | .goto _, _, _, _, _, _, _, _, _, _, _, _, _, h, _, _, _ => by cases h
  | .refuse _, _, _, _, _, _, _, _, _, _, _, _, _, h, _, _, _ => by cases h
end
section
variable {K : KT} {P : Program} {nt B : Nat}
theorem aqk {R : aa6} {H : KT.H K} {ρ : Env} {a : Act} {w : World} {X : List aad} (r : Regs nt a (dR ρ R)) (s : Sat B w (dH K ρ H ++ X)) : ∀ {rs : List ResultVar} {l : List V}, aA8 K P R H rs = some l →
    (rs.mapM (m := Sem) fun | .tmp t => pure (a.tmps.getD t undef) | .cell ad t => do loadVar t (← asAddr (a.tmps.getD ad undef))).run P w = .ok (aah ρ l) w
  | [], l, h => by cases h; rfl
  | .tmp t :: rs, l, h => by
    unfold aA8 at h
    split at h
    · rename_i v hv
      split at h
      · rename_i vs hvs
        cases h
        rw [List.mapM_cons]
        have := r.has _ (ajV (ρ := ρ) hv)
        rw [aaa (a := aaz ρ v) (w' := w) (by simp [Array.getD_eq_getD_getElem?, this, pure]), aaa (aqk r s hvs)]
        rfl
      · cases h
    · cases h
  | .cell t T :: rs, l, h => by
    unfold aA8 at h
    split at h
    · rename_i u hu
      split at h
      · rename_i v hv
        split at h
        · rename_i vs hvs
          cases h
          rw [List.mapM_cons]
          have hreg := r.has _ (ajV (ρ := ρ) hu)
          have hl : (do loadVar T (← asAddr (a.tmps.getD t undef)) : Sem Value).run P w = .ok (aaz ρ v) w := by
            unfold ldV at hv
            split at hv
            · rename_i id o
              simp only [aaz] at hreg
              have e : a.tmps.getD t undef = .pointer (some ⟨(ρ.p id).1, (ρ.p id).2 + o, none⟩) := by simp [Array.getD_eq_getD_getElem?, hreg]
              rw [e]
              rw [aaa (a := (⟨(ρ.p id).1, (ρ.p id).2 + o, none⟩ : Addr)) (w' := w) rfl]
              split at hv
              · rename_i hT
                exact ahE (us := [aaz ρ v]) hT rfl (fun j u hj => by
                  cases j with
                  | zero => simp at hj; subst hj; exact auS hv s
                  | succ j => simp at hj) rfl
              · rename_i k hT
                simp only [Option.map_eq_some_iff] at hv
                obtain ⟨l, hl, rfl⟩ := hv
                obtain ⟨h1, h2⟩ := auR hl s
                exact ahE hT (by rw [aaU]; simpa using h1) h2 rfl
              · cases hv
            · cases hv
          rw [aaa hl, aaa (aqk r s hvs)]
          rfl
        · cases h
      · cases h
    · cases h
theorem auy {ρ : Env} (l : List V) : aux (aah ρ l) = aaz ρ (aBJ l) := by
  match l with
  | [] => rfl
  | [v] => rfl
  | _ :: _ :: _ => rfl
theorem aof {fn : Func} {R : aa6} {H : KT.H K} {ρ : Env} {a : Act} {w : World} {X : List aad} {l : List V} (r : Regs nt a (dR ρ R)) (s : Sat B w (dH K ρ H ++ X)) (h : aA8 K P R H fn.results.toList = some l) : (results fn a.tmps).run P w = .ok (aaz ρ (aBJ l)) w := by
  unfold results
  have e : fn.results = fn.results.toList.toArray := by simp
  rw [e, ← auy]
  simp only [List.mapM_toArray]
  rw [aaa (a := (aah ρ l).toArray) (w' := w) (by
    rw [map_eq_pure_bind]
    exact aaa (aqk r s h))]
  match l with
  | [] => rfl
  | [v] => rfl
  | _ :: _ :: _ => rfl
end
def aCs : Nat → List V → aa6
  | _, [] => []
  | i, v :: l => (i, v) :: aCs (i + 1) l
section
variable (S : Shp) (P : Program)
noncomputable def evF (call : ako S.kt) (hs : List (Nat × Hint)) {α : Type} (fn : Func) (vs : List V) (n : Nat) (Z H : S.kt.H) (k : Nat → S.kt.H → V → Option α) : Option α :=
  match fn.body with
  | some c => match Nat.ble vs.length fn.ntmps with
    | true => ev S P call hs fn.ntmps c α [] Z (aCs 0 vs) n H
      (fun R n H => match aA8 S.kt P R H fn.results.toList with | some l => k n H (aBJ l) | none => none) (fun _ _ _ _ => none)
      (fun R n H => match aA8 S.kt P R H fn.results.toList with | some l => k n H (aBJ l) | none => none)
    | false => none
  | none => none
noncomputable def inl (tb : List (Nat × Func)) (hs : Nat → List (Nat × Hint)) (known : ako S.kt) : Nat → ako S.kt
  | 0 => known
  | m + 1 => fun α f vs n Z H k => match get tb f with
    | some fn => match Nat.blt f agx with
      | true => evF S P (inl tb hs known m) (hs f) fn vs n Z H k
      | false => none
    | none => known α f vs n Z H k
end
section
variable {S : Shp} {P : Program} {B : Nat} {W : World} {hs : List (Nat × Hint)}
theorem ar3 : ∀ (l : List V) (i : Nat) (ρ : Env) (p : Nat × Value), p ∈ dR ρ (aCs i l) → i ≤ p.1 ∧ (aah ρ l)[p.1 - i]? = some p.2
  | [], _, _, _, h => by cases h
  | v :: l, i, ρ, p, h => by
    rcases List.mem_cons.1 h with e | e
    · subst e
      exact ⟨Nat.le_refl _, by simp [aah]⟩
    · obtain ⟨h1, h2⟩ := ar3 l (i + 1) ρ p e
      refine ⟨by omega, ?_⟩
      obtain ⟨m, hm⟩ : ∃ m, p.1 - i = m + 1 := ⟨p.1 - (i + 1), by omega⟩
      rw [hm, aah, List.getElem?_cons_succ, ← h2]
      congr 1; omega
theorem aBx (hm : P.follows .mixedOrders = true) {call : ako S.kt} (hc : aj2 S.kt P B W call) {α : Type} {fid : FuncId} {fn : Func} (hf : P.funcs[fid]? = some fn) {vs : List V} {n : Nat} {Z H : S.kt.H} {k : Nat → S.kt.H → V → Option α} {out : α} (h : evF S P call hs fn vs n Z H k = some out) {F : aad} {ρ : Env} {w : World}
    (hw : Cls B W (dS S.kt ρ Z H F) w) : Calls P fid (aah ρ vs).toArray w fun e w' => ∃ x : Nx S.kt, (aaA n ρ x.ρ ∧ n ≤ x.n ∧ k x.n x.H x.v = some out) ∧ e = .returned (aaz x.ρ x.v) ∧ Cls B W (dS S.kt x.ρ Z x.H F) w' := by
  unfold evF at h
  split at h
  · rename_i c hb
    split at h
    · rename_i hle
      have hle' := Nat.le_of_ble_eq_true hle
      refine calls_of_wp hf hb (wpIn_wide (n := 0).1 ?_)
      have key := aih (nt := fn.ntmps) (B := B) (W := W) (F := F) hm hc c (Q := bodyPost P fn fun e w' => ∃ x : Nx S.kt, (aaA n ρ x.ρ ∧ n ≤ x.n ∧ k x.n x.H x.v = some out) ∧ e = .returned (aaz x.ρ x.v) ∧ Cls B W (dS S.kt x.ρ Z x.H F) w') (ρ := ρ) h ?_ ?_ ?_
      · refine key _ w (hw.st ⟨by simp [aaU]; omega, rfl, fun p hp => ?_⟩)
        rw [List.append_nil] at hp
        obtain ⟨_, h2⟩ := ar3 vs 0 ρ p hp
        rw [Nat.sub_zero] at h2
        have hlt := (List.getElem?_eq_some_iff.1 h2).1
        rw [Array.getElem?_append_left (by simpa using hlt)]
        simpa using h2
      · intro ρ' R' n' H' ha hn hk a w' s
        rw [List.append_nil] at s
        dsimp only at hk
        split at hk
        · rename_i l hl
          exact ⟨s.regs.defers, _, aof s.regs s.sat hl, ⟨ρ', n', H', aBJ l⟩, ⟨ha, hn, hk⟩, rfl, s.cls⟩
        · cases hk
      · exact fun j ρ' R' n' H' ha hn hk => by cases hk
      · intro ρ' R' n' H' ha hn hk a w' s
        rw [List.append_nil] at s
        dsimp only at hk
        split at hk
        · rename_i l hl
          exact bodyPost_ret (aof s.regs s.sat hl) s.regs.defers ⟨⟨ρ', n', H', aBJ l⟩, ⟨ha, hn, hk⟩, rfl, s.cls⟩
        · cases hk
    · cases h
  · cases h
theorem aBn (hm : P.follows .mixedOrders = true) {tb : List (Nat × Func)} {hs : Nat → List (Nat × Hint)} (ht : ∀ p ∈ tb, P.funcs[p.1]? = some p.2) {known : ako S.kt} (hk : aj2 S.kt P B W known) : ∀ m, aj2 S.kt P B W (inl S P tb hs known m)
  | 0 => hk
  | m + 1 => fun α f vs n Z H k out h h1 h2 h3 F ρ w hw => by
    unfold inl at h
    split at h
    · rename_i fn hg
      split at h
      · rename_i hb
        rw [adY hb]
        exact aBx hm (aBn hm ht hk m) (ht _ (at0 hg)) h hw
      · cases h
    · exact hk α f vs n Z H k out h h1 h2 h3 F ρ w hw
end
class Tb where
  tb : Nat → Int
  rg : ∀ i, 0 ≤ tb i ∧ tb i ≤ 255
def aD2 [T : Tb] (B : Nat) (W : World) : Prop := 0 < B ∧ ∀ i : Nat, i < 64 → W.cell? ⟨0, i, none⟩ = some (.int .u8 (T.tb i))
inductive Pk where
  | sh (s : Sh)
  | val (c : Nat)
  | ref (c : Nat)
  | mch
  | lent (c : Nat)
inductive Rk where
  | sh (s : Sh)
  | val (c : Nat)
section
variable (S : Shp)
def pkT : Pk → Type
  | .sh s => shT S.T S.M s
  | .val c => S.T c
  | .ref c => S.T c
  | .mch => S.M
  | .lent c => List (S.T c)
def akn : List Pk → Type
  | [] => Unit
  | p :: l => pkT S p × akn l
def rkT : Rk → Type
  | .sh s => shT S.T S.M s
  | .val c => S.T c
def akq : List Rk → Type
  | [] => Unit
  | p :: l => rkT S p × akq l
def ai7 : List Pk → Type
  | [] => Unit
  | .ref c :: l => S.T c × ai7 l
  | .mch :: l => S.M × ai7 l
  | .lent c :: l => List (S.T c) × ai7 l
  | .sh _ :: l => ai7 l
  | .val _ :: l => ai7 l
def azo (c : Nat) (x : S.T c) (v : Value) : aad := fun h => ∃ us : List Value, v = .agg us.toArray ∧ abN (fsS (pcS S.kt) (S.kt.vw c x) us) h
def apl : (ps : List Pk) → akn S ps → List Value → List aad
  | [], _, [] => []
  | .sh s :: ps, x, v :: vs => pcS S.kt (vw1 S.T S.M s x.1) v :: apl ps x.2 vs
  | .val c :: ps, x, v :: vs => azo S c x.1 v :: apl ps x.2 vs
  | .ref c :: ps, x, v :: vs => pcS S.kt (.own c x.1) v :: apl ps x.2 vs
  | .mch :: ps, x, v :: vs => pcS S.kt (.mach x.1) v :: apl ps x.2 vs
  | .lent c :: ps, x, v :: vs => pcS S.kt (.row c x.1) v :: apl ps x.2 vs
  | _, _, _ => [fun _ => False]
def agX : (ps : List Pk) → ai7 S ps → List Value → List aad
  | [], _, _ => []
  | .sh _ :: ps, x, _ :: vs => agX ps x vs
  | .val _ :: ps, x, _ :: vs => agX ps x vs
  | .ref c :: ps, x, v :: vs => pcS S.kt (.own c x.1) v :: agX ps x.2 vs
  | .mch :: ps, x, v :: vs => pcS S.kt (.mach x.1) v :: agX ps x.2 vs
  | .lent c :: ps, x, v :: vs => pcS S.kt (.row c x.1) v :: agX ps x.2 vs
  | _ :: _, _, [] => []
def arE : (rs : List Rk) → akq S rs → List Value → List aad
  | [], _, [] => []
  | .sh s :: rs, x, v :: vs => pcS S.kt (vw1 S.T S.M s x.1) v :: arE rs x.2 vs
  | .val c :: rs, x, v :: vs => azo S c x.1 v :: arE rs x.2 vs
  | _, _, _ => [fun _ => False]
def ay7 [Tb] (P : Program) (f : FuncId) (ps : List Pk) (rs : List Rk) (spec : akn S ps → Option (akq S rs × ai7 S ps)) : Prop :=
  ∀ x out, spec x = some out → ∀ B W, aD2 B W → ∀ vs F w, Cls B W (apl S ps x vs ++ [F]) w → afC P f vs.toArray w fun e w' => ∃ us, e = .returned (aux us) ∧ Cls B W (arE S rs out.1 us ++ (agX S ps out.2 vs ++ [F])) w'
def cin : (ps : List Pk) → akn S ps → Nat → List V × List (Nat × Ch S.T S.M) × Nat
  | [], _, n => ([], [], n)
  | .sh s :: ps, x, n => ((opF S.kt.vw n (.f (vw1 S.T S.M s x.1))).1 :: (cin ps x.2 (n + 1)).1, chL S n (opF S.kt.vw n (.f (vw1 S.T S.M s x.1))).2 ++ (cin ps x.2 (n + 1)).2.1, (cin ps x.2 (n + 1)).2.2)
  | .ref c :: ps, x, n => (.ptr n 0 :: (cin ps x.2 (n + 1)).1, (n, .cells ((S.kt.vw c x.1).map .f)) :: (cin ps x.2 (n + 1)).2.1, (cin ps x.2 (n + 1)).2.2)
  | .mch :: ps, x, n => (.mc n :: (cin ps x.2 (n + 1)).1, (n, .mach x.1) :: (cin ps x.2 (n + 1)).2.1, (cin ps x.2 (n + 1)).2.2)
  | .lent c :: ps, x, n => (.sl n :: (cin ps x.2 (n + 1)).1, (n, .row c x.1) :: (cin ps x.2 (n + 1)).2.1, (cin ps x.2 (n + 1)).2.2)
  | .val c :: ps, x, n => (.agg (opL S n (S.kt.vw c x.1)).1 :: (cin ps x.2 (n + S.kt.sz c)).1, (opL S n (S.kt.vw c x.1)).2 ++ (cin ps x.2 (n + S.kt.sz c)).2.1, (cin ps x.2 (n + S.kt.sz c)).2.2)
def as8 : (rs : List Rk) → akq S rs → Nat → List V × List (Nat × Ch S.T S.M) × Nat
  | [], _, n => ([], [], n)
  | .sh s :: rs, x, n => ((opF S.kt.vw n (.f (vw1 S.T S.M s x.1))).1 :: (as8 rs x.2 (n + 1)).1, chL S n (opF S.kt.vw n (.f (vw1 S.T S.M s x.1))).2 ++ (as8 rs x.2 (n + 1)).2.1, (as8 rs x.2 (n + 1)).2.2)
  | .val c :: rs, x, n => (.agg (opL S n (S.kt.vw c x.1)).1 :: (as8 rs x.2 (n + S.kt.sz c)).1, (opL S n (S.kt.vw c x.1)).2 ++ (as8 rs x.2 (n + S.kt.sz c)).2.1, (as8 rs x.2 (n + S.kt.sz c)).2.2)
end
section
variable {S : Shp} {B : Nat} {w : World}
theorem atj {c : Nat} {x : S.T c} {v : Value} {L : List aad} (s : Sat B w (azo S c x v :: L)) : ∃ us : List Value, v = .agg us.toArray ∧ Sat B w (fsS (pcS S.kt) (S.kt.vw c x) us ++ L) := by
  obtain ⟨h, Hh, k1, k2, a, e, ⟨us, h1, h2⟩, hL⟩ := s
  exact ⟨us, h1, h, Hh, aam.2 ⟨k1, k2, a, e, h2, hL⟩⟩
theorem ao8 : ∀ {ps : List Pk} {x : akn S ps} {n : Nat} {vs : List Value} {ρ : Env} {X : Env → List aad}, (∀ ρ ρ', aaA n ρ ρ' → X ρ = X ρ') → Sat B w (apl S ps x vs ++ X ρ) →
    ∃ ρ', aaA n ρ ρ' ∧ vs = aah ρ' (cin S ps x n).1 ∧ Sat B w (dH S.kt ρ' (cin S ps x n).2.1 ++ X ρ')
  | [], x, n, [], ρ, X, hX, s => ⟨ρ, aaA.refl _ _, rfl, s⟩
  | [], x, n, _ :: _, ρ, X, hX, s => aaR s
  | .sh s0 :: ps, x, n, [], ρ, X, hX, s => aaR s
  | .val c :: ps, x, n, [], ρ, X, hX, s => aaR s
  | .ref c :: ps, x, n, [], ρ, X, hX, s => aaR s
  | .mch :: ps, x, n, [], ρ, X, hX, s => aaR s
  | .lent c :: ps, x, n, [], ρ, X, hX, s => aaR s
  | .sh s0 :: ps, x, n, v :: vs, ρ, X, hX, s => by
    obtain ⟨ρ1, a1, e1, s1⟩ := aox (n := n) (f := vw1 S.T S.M s0 x.1) (Y := apl S ps x.2 vs) hX s
    obtain ⟨ρ2, a2, e2, s2⟩ := ao8 (n := n + 1) (awa (f := vw1 S.T S.M s0 x.1) hX) s1
    have htop := (ahz (K := S.kt) (n := n) (f := .f (vw1 S.T S.M s0 x.1)) (Nat.zero_le _)).1
    refine ⟨ρ2, a1.trans a2 (Nat.le_succ n), ?_, ?_⟩
    · simp only [cin, aah]
      rw [e1, ← e2, abd a2 _ htop]
    · simp only [cin, dHa]
      refine s2.perm ?_
      rw [List.append_assoc]
      exact ac4 _ _ _
  | .ref c :: ps, x, n, v :: vs, ρ, X, hX, s => by
    obtain ⟨ρ1, a1, e1, s1⟩ := aox (n := n) (f := .own c x.1) (Y := apl S ps x.2 vs) hX s
    obtain ⟨ρ2, a2, e2, s2⟩ := ao8 (n := n + 1) (awa (f := .own c x.1) hX) s1
    have htop := (ahz (K := S.kt) (n := n) (f := .f (.own c x.1)) (Nat.zero_le _)).1
    refine ⟨ρ2, a1.trans a2 (Nat.le_succ n), ?_, ?_⟩
    · simp only [cin, aah]
      rw [e1, ← e2, abd a2 _ htop]
      rfl
    · have : dH S.kt ρ2 (cin S (.ref c :: ps) x n).2.1 = dH S.kt ρ2 (chL S n (opF S.kt.vw n (.f (.own c x.1))).2) ++ dH S.kt ρ2 (cin S ps x.2 (n + 1)).2.1 := rfl
      rw [this]
      refine s2.perm ?_
      rw [List.append_assoc]
      exact ac4 _ _ _
  | .mch :: ps, x, n, v :: vs, ρ, X, hX, s => by
    obtain ⟨ρ1, a1, e1, s1⟩ := aox (n := n) (f := .mach x.1) (Y := apl S ps x.2 vs) hX s
    obtain ⟨ρ2, a2, e2, s2⟩ := ao8 (n := n + 1) (awa (f := .mach x.1) hX) s1
    have htop := (ahz (K := S.kt) (n := n) (f := .f (.mach x.1)) (Nat.zero_le _)).1
    refine ⟨ρ2, a1.trans a2 (Nat.le_succ n), ?_, ?_⟩
    · simp only [cin, aah]
      rw [e1, ← e2, abd a2 _ htop]
      rfl
    · have : dH S.kt ρ2 (cin S (.mch :: ps) x n).2.1 = dH S.kt ρ2 (chL S n (opF S.kt.vw n (.f (.mach x.1))).2) ++ dH S.kt ρ2 (cin S ps x.2 (n + 1)).2.1 := rfl
      rw [this]
      refine s2.perm ?_
      rw [List.append_assoc]
      exact ac4 _ _ _
  | .lent c :: ps, x, n, v :: vs, ρ, X, hX, s => by
    obtain ⟨ρ1, a1, e1, s1⟩ := aox (n := n) (f := .row c x.1) (Y := apl S ps x.2 vs) hX s
    obtain ⟨ρ2, a2, e2, s2⟩ := ao8 (n := n + 1) (awa (f := .row c x.1) hX) s1
    have htop := (ahz (K := S.kt) (n := n) (f := .f (.row c x.1)) (Nat.zero_le _)).1
    refine ⟨ρ2, a1.trans a2 (Nat.le_succ n), ?_, ?_⟩
    · simp only [cin, aah]
      rw [e1, ← e2, abd a2 _ htop]
      rfl
    · have : dH S.kt ρ2 (cin S (.lent c :: ps) x n).2.1 = dH S.kt ρ2 (chL S n (opF S.kt.vw n (.f (.row c x.1))).2) ++ dH S.kt ρ2 (cin S ps x.2 (n + 1)).2.1 := rfl
      rw [this]
      refine s2.perm ?_
      rw [List.append_assoc]
      exact ac4 _ _ _
  | .val c :: ps, x, n, v :: vs, ρ, X, hX, s => by
    obtain ⟨us, hv, s0⟩ := atj s
    obtain ⟨ρ1, a1, e1, s1⟩ := axK (n := n) (l := S.kt.vw c x.1) (Y := apl S ps x.2 vs) hX s0
    obtain ⟨ρ2, a2, e2, s2⟩ := ao8 (n := n + S.kt.sz c) (aFj (S.kt.sz_ok c x.1) hX) s1
    refine ⟨ρ2, a1.trans a2 (Nat.le_add_right ..), ?_, ?_⟩
    · simp only [cin, aah, aaz]
      rw [hv, e1, ← e2, (ak4 (a2.le (Nat.le_of_eq (congrArg (n + ·) (S.kt.sz_ok c x.1))))).1]
    · simp only [cin, dHa]
      refine s2.perm ?_
      rw [List.append_assoc]
      exact ac4 _ _ _
theorem at9 : ∀ {rs : List Rk} {x : akq S rs} {n : Nat} {vs : List Value} {ρ : Env} {X : Env → List aad}, (∀ ρ ρ', aaA n ρ ρ' → X ρ = X ρ') → Sat B w (arE S rs x vs ++ X ρ) →
    ∃ ρ', aaA n ρ ρ' ∧ vs = aah ρ' (as8 S rs x n).1 ∧ Sat B w (dH S.kt ρ' (as8 S rs x n).2.1 ++ X ρ')
  | [], x, n, [], ρ, X, hX, s => ⟨ρ, aaA.refl _ _, rfl, s⟩
  | [], x, n, _ :: _, ρ, X, hX, s => aaR s
  | .sh s0 :: ps, x, n, [], ρ, X, hX, s => aaR s
  | .val c :: ps, x, n, [], ρ, X, hX, s => aaR s
  | .sh s0 :: ps, x, n, v :: vs, ρ, X, hX, s => by
    obtain ⟨ρ1, a1, e1, s1⟩ := aox (n := n) (f := vw1 S.T S.M s0 x.1) (Y := arE S ps x.2 vs) hX s
    obtain ⟨ρ2, a2, e2, s2⟩ := at9 (n := n + 1) (awa (f := vw1 S.T S.M s0 x.1) hX) s1
    have htop := (ahz (K := S.kt) (n := n) (f := .f (vw1 S.T S.M s0 x.1)) (Nat.zero_le _)).1
    refine ⟨ρ2, a1.trans a2 (Nat.le_succ n), ?_, ?_⟩
    · simp only [as8, aah]
      rw [e1, ← e2, abd a2 _ htop]
    · simp only [as8, dHa]
      refine s2.perm ?_
      rw [List.append_assoc]
      exact ac4 _ _ _
  | .val c :: ps, x, n, v :: vs, ρ, X, hX, s => by
    obtain ⟨us, hv, s0⟩ := atj s
    obtain ⟨ρ1, a1, e1, s1⟩ := axK (n := n) (l := S.kt.vw c x.1) (Y := arE S ps x.2 vs) hX s0
    obtain ⟨ρ2, a2, e2, s2⟩ := at9 (n := n + S.kt.sz c) (aFj (S.kt.sz_ok c x.1) hX) s1
    refine ⟨ρ2, a1.trans a2 (Nat.le_add_right ..), ?_, ?_⟩
    · simp only [as8, aah, aaz]
      rw [hv, e1, ← e2, (ak4 (a2.le (Nat.le_of_eq (congrArg (n + ·) (S.kt.sz_ok c x.1))))).1]
    · simp only [as8, dHa]
      refine s2.perm ?_
      rw [List.append_assoc]
      exact ac4 _ _ _
end
section
variable (S : Shp)
def aF5 (H : S.kt.H) (c : Nat) (v : V) : Option (S.T c × S.kt.H) :=
  match v with
  | .agg l => match ata S.kt (asm S.kt) H (S.kt.vw c (S.kt.df c)) (l.map .v) with
    | some (fs, H') => match S.kt.bk c fs with
      | some x => some (x, H')
      | none => none
    | none => none
  | _ => none
def aDZ : (rs : List Rk) → S.kt.H → List V → Option (akq S rs × S.kt.H)
  | [], H, [] => some ((), H)
  | .sh s :: rs, H, v :: vs => match ayW S H s v with
    | some (x, H1) => match aDZ rs H1 vs with
      | some (r, H2) => some ((x, r), H2)
      | none => none
    | none => none
  | .val c :: rs, H, v :: vs => match aF5 S H c v with
    | some (x, H1) => match aDZ rs H1 vs with
      | some (r, H2) => some ((x, r), H2)
      | none => none
    | none => none
  | _, _, _ => none
def azi : (ps : List Pk) → Nat → S.kt.H → Option (ai7 S ps × S.kt.H)
  | [], _, H => some ((), H)
  | .sh _ :: ps, n, H => azi ps (n + 1) H
  | .val c :: ps, n, H => azi ps (n + S.kt.sz c) H
  | .ref c :: ps, n, H => match ayW S H (.own c) (.ptr n 0) with
    | some (x, H1) => match azi ps (n + 1) H1 with
      | some (r, H2) => some ((x, r), H2)
      | none => none
    | none => none
  | .mch :: ps, n, H => match ayW S H .mach (.mc n) with
    | some (x, H1) => match azi ps (n + 1) H1 with
      | some (r, H2) => some ((x, r), H2)
      | none => none
    | none => none
  | .lent c :: ps, n, H => match ayW S H (.row c) (.sl n) with
    | some (x, H1) => match azi ps (n + 1) H1 with
      | some (r, H2) => some ((x, r), H2)
      | none => none
    | none => none
def aGh : List Rk → V → Option (List V)
  | [_], v => some [v]
  | _, .tup l => match Nat.beq l.length 1 with
    | true => none
    | false => some l
  | _, _ => none
def aDT (ps : List Pk) (rs : List Rk) : Nat → S.kt.H → V → Option (akq S rs × ai7 S ps) := fun _ H v =>
  match aGh rs v with
  | some l => match aDZ S rs (aF0 S.kt H) l with
    | some (r, H1) => match azi S ps 0 H1 with
      | some (o, _) => some (r, o)
      | none => none
    | none => none
  | none => none
end
section
variable {S : Shp} {B : Nat} {w : World}
theorem ayU {H H' : S.kt.H} {c : Nat} {v : V} {x : S.T c} (h : aF5 S H c v = some (x, H')) {ρ : Env} {X : List aad} (s : Sat B w (dH S.kt ρ H ++ X)) : Sat B w (azo S c x (aaz ρ v) :: (dH S.kt ρ H' ++ X)) := by
  unfold aF5 at h
  split at h
  · rename_i l
    split at h
    · rename_i fs H1 hl
      split at h
      · rename_i y hy
        cases h
        have s1 := ahX aph hl (ρ := ρ) (X := X) (vs := aah ρ l) (s.imp fun k hk => ahI hk)
        rw [← S.kt.bk_ok _ _ _ hy] at s1
        refine s1.imp fun k hk => ?_
        obtain ⟨k1, k2, a, e, g1, g2⟩ := aam.1 hk
        exact ⟨k1, k2, a, e, ⟨aah ρ l, rfl, g1⟩, g2⟩
      · cases h
    · cases h
  · cases h
theorem aro : ∀ {rs : List Rk} {H H' : S.kt.H} {vs : List V} {r : akq S rs}, aDZ S rs H vs = some (r, H') → ∀ {ρ : Env} {X : List aad}, Sat B w (dH S.kt ρ H ++ X) → Sat B w (arE S rs r (aah ρ vs) ++ (dH S.kt ρ H' ++ X))
  | [], H, H', [], r, h, ρ, X, s => by cases h; exact s
  | [], _, _, _ :: _, _, h, _, _, _ => by cases h
  | .sh s0 :: rs, H, H', [], r, h, _, _, _ => by cases h
  | .val c :: rs, H, H', [], r, h, _, _, _ => by cases h
  | .sh s0 :: rs, H, H', v :: vs, r, h, ρ, X, s => by
    unfold aDZ at h
    split at h
    · rename_i x H1 h1
      split at h
      · rename_i r' H2 h2
        cases h
        have s1 := ahY h1 s
        have s2 := aro h2 (X := pcS S.kt (vw1 S.T S.M s0 x) (aaz ρ v) :: X) (s1.perm (List.perm_middle (l₁ := dH S.kt ρ H1)).symm)
        exact s2.perm (ajE _ _ _ _)
      · cases h
    · cases h
  | .val c :: rs, H, H', v :: vs, r, h, ρ, X, s => by
    unfold aDZ at h
    split at h
    · rename_i x H1 h1
      split at h
      · rename_i r' H2 h2
        cases h
        have s1 := ayU h1 s
        have s2 := aro h2 (X := azo S c x (aaz ρ v) :: X) (s1.perm (List.perm_middle (l₁ := dH S.kt ρ H1)).symm)
        exact s2.perm (ajE _ _ _ _)
      · cases h
    · cases h
def apj (S : Shp) (ρ : Env) : List Pk → Nat → List Value → Prop
  | [], _, _ => True
  | .sh _ :: ps, n, _ :: vs => apj S ρ ps (n + 1) vs
  | .val c :: ps, n, _ :: vs => apj S ρ ps (n + S.kt.sz c) vs
  | .ref _ :: ps, n, v :: vs => v = aaz ρ (.ptr n 0) ∧ apj S ρ ps (n + 1) vs
  | .mch :: ps, n, v :: vs => v = aaz ρ (.mc n) ∧ apj S ρ ps (n + 1) vs
  | .lent _ :: ps, n, v :: vs => v = aaz ρ (.sl n) ∧ apj S ρ ps (n + 1) vs
  | _ :: _, _, [] => False
theorem akm : ∀ {ps : List Pk} {n : Nat} {H H' : S.kt.H} {o : ai7 S ps}, azi S ps n H = some (o, H') → ∀ {ρ : Env} {vs : List Value} {X : List aad}, apj S ρ ps n vs → Sat B w (dH S.kt ρ H ++ X) → Sat B w (agX S ps o vs ++ (dH S.kt ρ H' ++ X))
  | [], n, H, H', o, h, ρ, vs, X, _, s => by
    cases h
    cases vs <;> exact s
  | _ :: _, n, H, H', o, h, ρ, [], X, ha, s => by
    rename_i p ps
    cases p <;> exact ha.elim
  | .sh _ :: ps, n, H, H', o, h, ρ, v :: vs, X, ha, s => akm (ps := ps) (n := n + 1) h ha s
  | .val c :: ps, n, H, H', o, h, ρ, v :: vs, X, ha, s => akm (ps := ps) (n := n + S.kt.sz c) h ha s
  | .ref c :: ps, n, H, H', o, h, ρ, v :: vs, X, ha, s => by
    unfold azi at h
    split at h
    · rename_i x H1 h1
      split at h
      · rename_i r H2 h2
        cases h
        have s1 := ahY h1 s
        have s2 := akm h2 (X := pcS S.kt (vw1 S.T S.M (.own c) x) (aaz ρ (.ptr n 0)) :: X) ha.2 (s1.perm (List.perm_middle (l₁ := dH S.kt ρ H1)).symm)
        have s3 := s2.perm (ajE _ _ _ _)
        rw [← ha.1] at s3
        exact s3
      · cases h
    · cases h
  | .mch :: ps, n, H, H', o, h, ρ, v :: vs, X, ha, s => by
    unfold azi at h
    split at h
    · rename_i x H1 h1
      split at h
      · rename_i r H2 h2
        cases h
        have s1 := ahY h1 s
        have s2 := akm h2 (X := pcS S.kt (vw1 S.T S.M .mach x) (aaz ρ (.mc n)) :: X) ha.2 (s1.perm (List.perm_middle (l₁ := dH S.kt ρ H1)).symm)
        have s3 := s2.perm (ajE _ _ _ _)
        rw [← ha.1] at s3
        exact s3
      · cases h
    · cases h
  | .lent c :: ps, n, H, H', o, h, ρ, v :: vs, X, ha, s => by
    unfold azi at h
    split at h
    · rename_i x H1 h1
      split at h
      · rename_i r H2 h2
        cases h
        have s1 := ahY h1 s
        have s2 := akm h2 (X := pcS S.kt (vw1 S.T S.M (.row c) x) (aaz ρ (.sl n)) :: X) ha.2 (s1.perm (List.perm_middle (l₁ := dH S.kt ρ H1)).symm)
        have s3 := s2.perm (ajE _ _ _ _)
        rw [← ha.1] at s3
        exact s3
      · cases h
    · cases h
theorem ahT : ∀ {ps : List Pk} {x : akn S ps} {n : Nat} {ρ ρ' : Env} {vs : List Value}, vs = aah ρ (cin S ps x n).1 → aaA (cin S ps x n).2.2 ρ ρ' → apj S ρ' ps n vs ∧ n ≤ (cin S ps x n).2.2
  | [], x, n, ρ, ρ', vs, h, a => ⟨trivial, Nat.le_refl _⟩
  | .sh s0 :: ps, x, n, ρ, ρ', vs, h, a => by
    subst h
    obtain ⟨h1, h2⟩ := ahT (ps := ps) (x := x.2) (n := n + 1) rfl a
    exact ⟨h1, Nat.le_trans (Nat.le_succ n) h2⟩
  | .val c :: ps, x, n, ρ, ρ', vs, h, a => by
    subst h
    obtain ⟨h1, h2⟩ := ahT (ps := ps) (x := x.2) (n := n + S.kt.sz c) rfl a
    exact ⟨h1, Nat.le_trans (Nat.le_add_right ..) h2⟩
  | .ref c :: ps, x, n, ρ, ρ', vs, h, a => by
    subst h
    obtain ⟨h1, h2⟩ := ahT (ps := ps) (x := x.2) (n := n + 1) rfl a
    refine ⟨⟨?_, h1⟩, Nat.le_trans (Nat.le_succ n) h2⟩
    exact abd (v := .ptr n 0) (n := n + 1) (a.le h2) (Nat.le_refl _)
  | .mch :: ps, x, n, ρ, ρ', vs, h, a => by
    subst h
    obtain ⟨h1, h2⟩ := ahT (ps := ps) (x := x.2) (n := n + 1) rfl a
    refine ⟨⟨?_, h1⟩, Nat.le_trans (Nat.le_succ n) h2⟩
    exact abd (v := .mc n) (n := n + 1) (a.le h2) (Nat.le_refl _)
  | .lent c :: ps, x, n, ρ, ρ', vs, h, a => by
    subst h
    obtain ⟨h1, h2⟩ := ahT (ps := ps) (x := x.2) (n := n + 1) rfl a
    refine ⟨⟨?_, h1⟩, Nat.le_trans (Nat.le_succ n) h2⟩
    exact abd (v := .sl n) (n := n + 1) (a.le h2) (Nat.le_refl _)
theorem auN {rs : List Rk} {v : V} {l : List V} (h : aGh rs v = some l) (ρ : Env) : aaz ρ v = aux (aah ρ l) := by
  unfold aGh at h
  split at h
  · cases h; rfl
  · split at h
    · cases h
    · rename_i l' hne
      cases h
      match l, hne with
      | [], _ => rfl
      | [_], hne => cases hne
      | _ :: _ :: _, _ => rfl
  · cases h
theorem aAR [Tb] {P : Program} (hm : P.follows .mixedOrders = true) {f : FuncId} {fn : Func} (hf : P.funcs[f]? = some fn) {call : ako S.kt} (hc : ∀ B W, aD2 B W → aj2 S.kt P B W call) {hs : List (Nat × Hint)} {ps : List Pk} {rs : List Rk} {spec : akn S ps → Option (akq S rs × ai7 S ps)}
    (h : ∀ x, evF S P call hs fn (cin S ps x 0).1 (cin S ps x 0).2.2 [] (cin S ps x 0).2.1 (aDT S ps rs) = spec x) (hb : Nat.blt f agx = true := by rfl) : ay7 S P f ps rs spec := by
  intro x out hx B W hg vs F w hw
  obtain ⟨ρ, _, e1, s1⟩ := ao8 (n := 0) (ρ := ⟨fun _ => (0, 0), fun _ => ⟨none, 0, 0⟩, fun _ => undef⟩) (X := fun _ => [F]) (fun _ _ _ => rfl) hw.2.2
  have s2 : Cls B W (dS S.kt ρ [] (cin S ps x 0).2.1 F) w := ⟨hw.1, hw.2.1, s1⟩
  have h1 := aBx hm (hc B W hg) hf ((h x).trans hx) s2
  rw [← e1] at h1
  rw [adY hb]
  refine h1.mono fun e w' ⟨y, ⟨ha, hn, hk⟩, he, hb1, hb2, hs⟩ => ?_
  unfold aDT at hk
  split at hk
  · rename_i l hl
    split at hk
    · rename_i r H1 hr
      split at hk
      · rename_i o H2 ho
        cases hk
        have s3 := aro hr (X := [F]) (arb hs)
        have s4 : Sat B w' (dH S.kt y.ρ H1 ++ (arE S rs r (aah y.ρ l) ++ [F])) := s3.perm (ac4 _ _ _)
        have s5 := akm ho (ahT e1 ha).1 s4
        refine ⟨aah y.ρ l, ?_, hb1, hb2, ?_⟩
        · rw [he, auN hl]
        · have s6 := s5.perm (ac4 (agX S ps o vs) (dH S.kt y.ρ H2) (arE S rs r (aah y.ρ l) ++ [F]))
          have s7 : Sat B w' (agX S ps o vs ++ (arE S rs r (aah y.ρ l) ++ [F])) := s6.imp fun _ => agn
          exact s7.perm (ac4 _ _ _)
      · cases hk
    · cases hk
  · cases hk
end
end
end Go.Proofs.YtclaldommncdbaaGreat
