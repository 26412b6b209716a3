/- Evaluation by itself, 10: code; calls by their bodies. No program occurs here. Evaluation by itself: contracts of functions, from their bodies. No program occurs here. -/
import Derived.Test.YtlcelajkhklkbaaGreatAqag
import Derived.LoopNIn
import Derived.Test.YtlcelajkhklkbaaGreatAqae
set_option linter.all false
namespace Go.Proofs.YtlcelajkhklkbaaGreat
section
open Go Go.RowKit
abbrev Kt (K : KT) (α : Type) := aaV → Nat → KT.H K → Option α
section
variable (K : KT) (P : Program)
def avD (R : aaV) (H : KT.H K) : List ResultVar → Option (List V)
  | [] => some []
  | .tmp t :: l => match get R t with
    | some v => match avD R H l with
      | some vs => some (v :: vs)
      | none => none
    | none => none
  | .cell t T :: l => match get R t with
    | some u => match ldV K P H T u with
      | some v => match avD R H l with
        | some vs => some (v :: vs)
        | none => none
      | none => none
    | none => none
def av6 : List V → V
  | [v] => v
  | l => .tup l
end
inductive Hint where
  | loop (items : List Itm) (fuel ex : Nat)
  | cut (items : List Itm) (fz : List Nat)
  | loopR (items : List Itm) (fuel ex : Nat)
  | cutR (items : List Itm) (fz : List Nat)
  | close
  | unroll (k : Nat)
  | spl (t : Nat) (vals : List Nat) (k : Nat)
def ag7 : Code → Option Nat
  | .region id _ _ => some id
  | .seq a b => match ag7 a with
    | some i => some i
    | none => ag7 b
  | .block _ c => ag7 c
  | .loop c => ag7 c
  | .cond _ a b => match ag7 a with
    | some i => some i
    | none => ag7 b
  | .scope c => ag7 c
  | _ => none
def aAx : List Oper → List Nat
  | [] => []
  | o :: l => match o.dst with
    | some d => d :: aAx l
    | none => aAx l
def ahA : Code → List Nat
  | .region _ ops _ => aAx ops.toList
  | .seq a b => ahA a ++ ahA b
  | .block _ c => ahA c
  | .loop c => ahA c
  | .cond _ a b => ahA a ++ ahA b
  | .scope c => ahA c
  | _ => []
def adO (l : List Nat) : aaV → aaV
  | [] => []
  | (t, v) :: R => match inN l t with
    | true => adO l R
    | false => (t, v) :: adO l R
def aur (l : List Nat) : aaV → aaV
  | [] => []
  | (t, v) :: R => match inN l t with
    | true => (t, v) :: aur l R
    | false => aur l R
def aiy {α : Type} (l : List Nat) : List (Nat × α) → List (Nat × α) × List (Nat × α)
  | [] => ([], [])
  | (t, v) :: R => match inN l t with
    | true => ((t, v) :: (aiy l R).1, (aiy l R).2)
    | false => ((aiy l R).1, (t, v) :: (aiy l R).2)
def lkH {T : Nat → Type} {M : Type} : List (Nat × Ch T M) → List (Nat × Ch T M)
  | [] => []
  | (t, v) :: R => match v with
    | .ro c xs => (t, .ro c xs) :: lkH R
    | .rr c xs => (t, .rr c xs) :: lkH R
    | .elt j i sz => (t, .elt j i sz) :: lkH R
    | _ => lkH R
theorem avf {K : KT} {ρ : Env} {t : Nat} {v : Ch K.T K.M} {L : List aah} (h : (∃ c xs, v = .ro c xs) ∨ (∃ c xs, v = .rr c xs) ∨ ∃ j i sz, v = .elt j i sz) : Ent (abN K ρ t v :: L) (abN K ρ t v :: abN K ρ t v :: L) := by
  rcases h with ⟨c, xs, rfl⟩ | ⟨c, xs, rfl⟩ | ⟨j, i, sz, rfl⟩
  · rintro k ⟨k1, k2, a, e, ⟨h1, h2⟩, hL⟩
    exact aaF (fun _ h => ⟨h1, h⟩) (aa7 (fun _ => aaF fun _ h => ⟨h1, h⟩) (asl k ⟨k1, k2, a, e, h2, hL⟩))
  · rintro k ⟨k1, k2, a, e, ⟨h1, ps, h2⟩, hL⟩
    exact aaF (fun _ h => ⟨h1, ps, h⟩) (aa7 (fun _ => aaF fun _ h => ⟨h1, ps, h⟩) (ajI k ⟨k1, k2, a, e, h2, hL⟩))
  · rintro k ⟨k1, k2, a, e, hp, hL⟩
    exact ⟨fun _ _ => none, k, fun _ _ => .inl rfl, by funext x y; rfl, hp, ⟨k1, k2, a, e, hp, hL⟩⟩
theorem avW {K : KT} {ρ : Env} {X : List aah} : ∀ {Z : KT.H K}, Ent (dH K ρ Z ++ X) (dH K ρ (lkH Z) ++ (dH K ρ Z ++ X))
  | [] => Ent.refl
  | (t, v) :: Z => by
    have ih := avW (K := K) (ρ := ρ) (X := X) (Z := Z)
    have one : ((∃ c xs, v = .ro c xs) ∨ (∃ c xs, v = .rr c xs) ∨ ∃ j i sz, v = .elt j i sz) → Ent (dH K ρ ((t, v) :: Z) ++ X) (dH K ρ ((t, v) :: lkH Z) ++ (dH K ρ ((t, v) :: Z) ++ X)) := fun h k hk => by
      have h1 := avf h k (show abh (abN K ρ t v :: (dH K ρ Z ++ X)) k from hk)
      have h2 := aa7 (fun _ => aa7 (fun q hq => ih q hq)) h1
      refine abg ?_ h2
      show (abN K ρ t v :: abN K ρ t v :: (dH K ρ (lkH Z) ++ (dH K ρ Z ++ X))).Perm (abN K ρ t v :: (dH K ρ (lkH Z) ++ (abN K ρ t v :: (dH K ρ Z ++ X))))
      exact List.Perm.cons _ (List.perm_middle (l₁ := dH K ρ (lkH Z))).symm
    have none_ : Ent (dH K ρ ((t, v) :: Z) ++ X) (dH K ρ (lkH Z) ++ (dH K ρ ((t, v) :: Z) ++ X)) := fun k hk => by
      have h2 := aa7 (fun q hq => ih q hq) (show abh (abN K ρ t v :: (dH K ρ Z ++ X)) k from hk)
      exact abg (List.perm_middle (l₁ := dH K ρ (lkH Z))).symm h2
    unfold lkH
    split
    · exact one (.inl ⟨_, _, rfl⟩)
    · exact one (.inr (.inl ⟨_, _, rfl⟩))
    · exact one (.inr (.inr ⟨_, _, _, rfl⟩))
    · exact none_
theorem aqB {K : KT} {nt B : Nat} {W : World} {ρ : Env} {L : acd} {Y Z H : KT.H K} {F : aah} {a : Act} {w : World} (s : Sta nt B W L (dS K ρ (Y ++ Z) H F) a w) : Sta nt B W L (dS K ρ (Y ++ Z) (H ++ lkH Y) F) a w := ⟨s.regs, s.below, s.lo, by
  have s1 : Sat B w (dH K ρ H ++ (dH K ρ (Y ++ Z) ++ [F])) := s.sat
  rw [amj, List.append_assoc] at s1
  have s2 : Sat B w (dH K ρ Y ++ (dH K ρ H ++ (dH K ρ Z ++ [F]))) := s1.perm (ace _ _ _)
  have s3 := s2.imp (avW (K := K) (ρ := ρ))
  refine s3.perm ?_
  show (dH K ρ (lkH Y) ++ (dH K ρ Y ++ (dH K ρ H ++ (dH K ρ Z ++ [F])))).Perm (dH K ρ (H ++ lkH Y) ++ (dH K ρ (Y ++ Z) ++ [F]))
  rw [amj, amj]; exact aaw fun f g h1 h2 h3 => by simp only [h1, h2, h3]; omega⟩
def lpF {σ β : Type} (F : (σ → Option β) → σ → Option β) : Nat → σ → Option β
  | 0, _ => none
  | k + 1, x => F (lpF F k) x
def itF (S : Shp) (n : Nat) (Z : S.kt.H) (items : List Itm) {β : Type} (k : app S items → Option β) : Kt S.kt β := fun R _ H => match itA S n Z items R H with
  | some (x, _) => k x
  | none => none
section
variable (S : Shp) (P : Program) (call : ai1 S.kt) (hs : List (Nat × Hint)) (nt : Nat)
def av4 {α : Type} (body : aaV → Nat → S.kt.H → Kt S.kt α → Option α) : Nat → Kt S.kt α
  | 0 => fun _ _ _ => none
  | k + 1 => fun R n H => body R n H (av4 body k)
def au2 {α : Type} (z : Int) (f : Nat → Option α) : List Nat → Option α
  | [] => none
  | m :: l => if z = ((m : Nat) : Int) then f m else au2 z f l
def aAV (R : aaV) : Itm → Itm
  | .ob id c => match Nat.ble 1000000 id with
    | true => match get R (Nat.sub id 1000000) with
      | some (.ptr j _) => .ob j c
      | some (.ifc _ (.ptr j _)) => .ob j c
      | _ => .ob id c
    | false => .ob id c
  | it => it
def axm (R : aaV) : List Itm → List Itm
  | [] => []
  | it :: l => aAV R it :: axm R l
def aAa (R : aaV) : Hint → Hint
  | .loop items fuel ex => .loop (axm R items) fuel ex
  | .loopR items fuel ex => .loopR (axm R items) fuel ex
  | h => h
def axV (R : aaV) : List Itm → Bool
  | [] => true
  | .cx id _ :: l => match get R 0 with
    | some (.ptr j _) => Nat.beq j id && axV R l
    | _ => false
  | _ :: l => axV R l
def aA2 (n : Nat) (Z : S.kt.H) (R : aaV) (H : S.kt.H) : Hint → Bool
  | .loop items _ _ => axV R items && (itA S n Z items R H).isSome
  | .loopR items _ _ => axV R items && (itA S n Z items R H).isSome
  | .cut items fz => axV R items && (match itA S n Z items R H with
    | some (_, Hr) => Hr.all fun p => match p.2 with
      | .cells .. => fz.any (Nat.beq p.1)
      | .row .. => fz.any (Nat.beq p.1)
      | _ => true
    | none => false)
  | .cutR items fz => axV R items && (match itA S n Z items R H with
    | some (_, Hr) => Hr.all fun p => match p.2 with
      | .cells .. => fz.any (Nat.beq p.1)
      | .row .. => fz.any (Nat.beq p.1)
      | _ => true
    | none => false)
  | _ => true
def aAB : List (Nat × Hint) → Nat → List Hint
  | [], _ => []
  | p :: l, id => match Nat.beq p.1 id with
    | true => p.2 :: aAB l id
    | false => aAB l id
def aAN (t : Hint → Bool) : List Hint → Option Hint
  | [] => none
  | h :: l => match t h with
    | true => some h
    | false => aAN t l
def ay9 (hs : List (Nat × Hint)) (n : Nat) (Z : S.kt.H) (R : aaV) (H : S.kt.H) (id : Nat) : Option Hint := match aAB hs id with
  | [] => none
  | [h] => some h
  | l => aAN (aA2 S n Z R H) l
def az9 (hs : List (Nat × Hint)) (n : Nat) (Z : S.kt.H) (R : aaV) (H : S.kt.H) (id : Nat) : Option Hint := match ay9 S hs n Z R H id with
  | some h => some (aAa R h)
  | none => none
def axN (hs : List (Nat × Hint)) (id : Nat) (H : S.kt.H) : S.kt.H := match get hs id with
  | some .close => azI S.kt H
  | _ => H
noncomputable def ev : Code → (α : Type) → (C : aaV) → (Z : S.kt.H) → aaV → Nat → S.kt.H → Kt S.kt α → (Nat → Kt S.kt α) → Kt S.kt α → Option α
  | .skip, _, _, _, R, n, H, kn, _, _ => kn R n H
  | .region id ops d, _, C, Z, R, n, H, kn, _, _ => match d with
    | false => rtE S.kt P call ops nt C Z ops.toList R n (axN S hs id H) kn
    | true => ass ops.toList 0 fun L => match okM ops L with
      | true => atE S.kt P call ops nt C Z L ops.size 0 [] R n (axN S hs id H) kn
      | false => none
  | .seq x y, α, C, Z, R, n, H, kn, ke, kr => match (ag7 y).bind (ay9 S hs n Z (R ++ C) H) with
    | some (.cut items fz) => match Nat.ble (aqx (adO (ahA x) R ++ C)) n && Nat.ble (aeb ((aiy fz H).1 ++ Z)) n with
      | true => (ev x (app S items) (adO (ahA x) R ++ C) ((aiy fz H).1 ++ Z) (aur (ahA x) R) n ((aiy fz H).2 ++ lkH (aiy fz H).1) (itF S n ((aiy fz H).1 ++ Z) items some) (fun _ _ _ _ => none) (fun _ _ _ => none)).bind fun z =>
        ev y α C Z ((itB S items z n).1 ++ adO (ahA x) R) (itB S items z n).2.2 ((itB S items z n).2.1 ++ (aiy fz H).1) kn ke kr
      | false => none
    | some (.cutR items fz) => match Nat.ble (aqx (adO (ahA x) R ++ C)) n && Nat.ble (aeb ((aiy fz H).1 ++ Z)) n with
      | true => (ev x (app S items ⊕ α) (adO (ahA x) R ++ C) ((aiy fz H).1 ++ Z) (aur (ahA x) R) n ((aiy fz H).2 ++ lkH (aiy fz H).1) (itF S n ((aiy fz H).1 ++ Z) items (fun z => some (.inl z))) (fun j R' n' H' => (ke j (R' ++ adO (ahA x) R) n' (H' ++ (aiy fz H).1)).map .inr) (fun R' n' H' => (kr (R' ++ adO (ahA x) R) n' (H' ++ (aiy fz H).1)).map .inr)).bind fun z => match z with
        | .inl z => ev y α C Z ((itB S items z n).1 ++ adO (ahA x) R) (itB S items z n).2.2 ((itB S items z n).2.1 ++ (aiy fz H).1) kn ke kr
        | .inr o => some o
      | false => none
    | _ => ev x α C Z R n H (fun R n H => ev y α C Z R n H kn ke kr) ke kr
  | .cond c x y, α, C, Z, R, n, H, kn, ke, kr => match evO (R ++ C) c with
    | some (.t b) => match b with
      | true => ev x α C Z R n H kn ke kr
      | false => ev y α C Z R n H kn ke kr
    | some (.p Q d) => @ite _ Q d (ev x α C Z R n H kn ke kr) (ev y α C Z R n H kn ke kr)
    | some (.b b) => if b = true then ev x α C Z R n H kn ke kr else ev y α C Z R n H kn ke kr
    | _ => none
  | .block id c, α, C, Z, R, n, H, kn, ke, kr => ev c α C Z R n H kn (fun j => match Nat.beq j id with | true => kn | false => ke j) kr
  | .loop c, α, C, Z, R, n, H, _, ke, kr => match (ag7 c).bind (az9 S hs n Z (R ++ C) H) with
    | some (.loopR items fuel ex) => match itA S n Z items R H with
      | some (x0, Hr) => match Nat.ble (aqx (adO (ahA c) R ++ C)) n && Nat.ble (aeb (Hr ++ Z)) n with
        | true => (lpF (fun self x => ev c (app S items ⊕ α) (adO (ahA c) R ++ C) (Hr ++ Z) (itB S items x n).1 (itB S items x n).2.2 ((itB S items x n).2.1 ++ lkH Hr) (itF S n (Hr ++ Z) items self)
            (fun j => match Nat.beq j ex with | true => itF S n (Hr ++ Z) items (fun z => some (.inl z)) | false => fun R' n' H' => (ke j (R' ++ adO (ahA c) R) n' (H' ++ Hr)).map .inr) (fun R' n' H' => (kr (R' ++ adO (ahA c) R) n' (H' ++ Hr)).map .inr)) fuel x0).bind fun z => match z with
          | .inl z => ke ex ((itB S items z n).1 ++ adO (ahA c) R) (itB S items z n).2.2 ((itB S items z n).2.1 ++ Hr)
          | .inr o => some o
        | false => none
      | none => none
    | some (.loop items fuel ex) => match itA S n Z items R H with
      | some (x0, Hr) => match Nat.ble (aqx (adO (ahA c) R ++ C)) n && Nat.ble (aeb (Hr ++ Z)) n with
        | true => (lpF (fun self x => ev c (app S items) (adO (ahA c) R ++ C) (Hr ++ Z) (itB S items x n).1 (itB S items x n).2.2 ((itB S items x n).2.1 ++ lkH Hr) (itF S n (Hr ++ Z) items self)
            (fun j => match Nat.beq j ex with | true => itF S n (Hr ++ Z) items some | false => fun _ _ _ => none) (fun _ _ _ => none)) fuel x0).bind fun z =>
          ke ex ((itB S items z n).1 ++ adO (ahA c) R) (itB S items z n).2.2 ((itB S items z n).2.1 ++ Hr)
        | false => none
      | none => none
    | some (.unroll k) => av4 S (fun R n H kn => ev c α C Z R n H kn ke kr) k R n H
    | some (.spl t vals k) => match get R t with
      | some (.i kk z) => au2 z (fun m => av4 S (fun R n H kn => ev c α C Z R n H kn ke kr) k ((t, .l kk ((m : Nat) : Int)) :: del R t) n H) vals
      | _ => none
    | _ => none
  | .exit id, _, _, _, R, n, H, _, ke, _ => ke id R n H
  | .ret, _, _, _, R, n, H, _, _, kr => kr R n H
  | _, _, _, _, _, _, _, _, _, _ => none
end
theorem ard {α : Type} {z : Int} {f : Nat → Option α} {out : α} : ∀ {l : List Nat}, au2 z f l = some out → ∃ m : Nat, z = ((m : Nat) : Int) ∧ f m = some out
  | [], h => by cases h
  | m :: l, h => by
    unfold au2 at h
    split at h
    · rename_i e; exact ⟨m, e, h⟩
    · exact ard h
section
variable {S : Shp} {P : Program} {call : ai1 S.kt} {hs : List (Nat × Hint)} {nt B : Nat} {W : World} {F : aah}
theorem auo {ρ : Env} {R C : aaV} {t : Nat} {kk : IntKind} {z : Int} {m : Nat} {a : Act} (hg : get R t = some (.i kk z)) (hz : z = ((m : Nat) : Int)) (r : Regs nt a (dR ρ (R ++ C))) : Regs nt a (dR ρ (((t, .l kk ((m : Nat) : Int)) :: del R t) ++ C)) := by
  refine ⟨r.size, r.defers, fun p hp => ?_⟩
  obtain ⟨q, hq, rfl⟩ := List.mem_map.1 hp
  rcases List.mem_append.1 hq with h1 | h1
  · rcases List.mem_cons.1 h1 with e1 | e1
    · subst e1
      have := r.has _ (aiG (ρ := ρ) (anR hg))
      rw [hz] at this
      exact this
    · exact r.has _ (List.mem_map.2 ⟨q, List.mem_append_left _ (ag8 e1).1, rfl⟩)
  · exact r.has _ (List.mem_map.2 ⟨q, List.mem_append_right _ h1, rfl⟩)
theorem anB {ρ : Env} {R C : aaV} {a : Act} (h1 : ∀ p ∈ dR ρ R, a.tmps[p.1]? = some p.2) (h2 : Regs nt a (dR ρ C)) : Regs nt a (dR ρ (R ++ C)) := ⟨h2.size, h2.defers, fun p hp => by
  unfold dR at hp; rw [List.map_append] at hp
  exact (List.mem_append.1 hp).elim (h1 p) (h2.has p)⟩
theorem avE {ρ : Env} {R C : aaV} {a : Act} (h : Regs nt a (dR ρ (R ++ C))) : Regs nt a (dR ρ C) := h.sub fun p hp => by unfold dR; rw [List.map_append]; exact List.mem_append_right _ hp
theorem aoy {ρ : Env} {R C : aaV} {a : Act} (h : Regs nt a (dR ρ (R ++ C))) : Regs nt a (dR ρ R) := h.sub fun p hp => by unfold dR; rw [List.map_append]; exact List.mem_append_left _ hp
theorem al5 {l : List Nat} {p : Nat × V} : ∀ {R : aaV}, p ∈ adO l R → p ∈ R
  | [], h => by cases h
  | (t, v) :: R, h => by
    unfold adO at h
    split at h
    · exact List.mem_cons_of_mem _ (al5 h)
    · exact (List.mem_cons.1 h).elim (fun e => by subst e; exact List.mem_cons_self ..) (fun h => List.mem_cons_of_mem _ (al5 h))
theorem anv {l : List Nat} {p : Nat × V} : ∀ {R : aaV}, p ∈ aur l R → p ∈ R
  | [], h => by cases h
  | (t, v) :: R, h => by
    unfold aur at h
    split at h
    · exact (List.mem_cons.1 h).elim (fun e => by subst e; exact List.mem_cons_self ..) (fun h => List.mem_cons_of_mem _ (anv h))
    · exact List.mem_cons_of_mem _ (anv h)
theorem alE {ρ : Env} {l : List Nat} {R C : aaV} {a : Act} (h : Regs nt a (dR ρ (R ++ C))) : Regs nt a (dR ρ (adO l R ++ C)) := anB (fun p hp => by
  obtain ⟨q, hq, rfl⟩ := List.mem_map.1 hp
  exact (aoy h).has _ (List.mem_map.2 ⟨q, al5 hq, rfl⟩)) (avE h)
theorem aqM {ρ : Env} {l : List Nat} {R C : aaV} {a : Act} (h : Regs nt a (dR ρ (R ++ C))) : Regs nt a (dR ρ (aur l R ++ (adO l R ++ C))) := anB (fun p hp => by
  obtain ⟨q, hq, rfl⟩ := List.mem_map.1 hp
  exact (aoy h).has _ (List.mem_map.2 ⟨q, anv hq, rfl⟩)) (alE h)
theorem ai7 {ρ : Env} {l : List Nat} : ∀ {H : S.kt.H}, (dH S.kt ρ H).Perm (dH S.kt ρ (aiy l H).2 ++ dH S.kt ρ (aiy l H).1)
  | [] => .refl _
  | (t, v) :: H => by
    unfold aiy
    split
    · exact ((ai7 (H := H)).cons _).trans (List.perm_middle).symm
    · exact (ai7 (H := H)).cons _
theorem anQ {n : Nat} {ρ0 ρ1 : Env} {items : List Itm} {x : app S items} {C : aaV} {Z : S.kt.H} {a : Act} {w : World} (h0 : aaz n ρ0 ρ1) (ok : am7 n items = true) (hC : aqx C ≤ n) (hZ : aeb Z ≤ n) (s : Sat B w (IS S ρ0 a items x ++ tl S.kt Z F ρ1)) (r : Regs nt a (dR ρ1 C)) (hb : Below B W w) (hl : B ≤ w.heap.size) :
    ∃ ρ', aaz n ρ0 ρ' ∧ n ≤ (itB S items x n).2.2 ∧ Sta nt B W (dR ρ' ((itB S items x n).1 ++ C)) (dS S.kt ρ' Z (itB S items x n).2.1 F) a w := by
  obtain ⟨ρ2, a2, n2, r2, s2⟩ := al7 (l := items) (n := n) (X := tl S.kt Z F) ok (Nat.le_refl _) h0 (fun ρ ρ' ha => acg hZ ha) s
  exact ⟨ρ2, h0.trans a2 (Nat.le_refl _), n2, ⟨anB r2 (by rw [← abq a2 C hC]; exact r), hb, hl, s2⟩⟩
theorem akr {n : Nat} {ρ0 ρ1 : Env} {items : List Itm} {x : app S items} {C R : aaV} {Z H H' : S.kt.H} {a : Act} {w : World} (h : itA S n Z items R H = some (x, H')) (h0 : aaz n ρ0 ρ1) (hC : aqx C ≤ n) (hZ : aeb Z ≤ n) (s : Sta nt B W (dR ρ1 (R ++ C)) (dS S.kt ρ1 Z H F) a w) :
    ∃ ρ', aaz n ρ0 ρ' ∧ n ≤ (itB S items x n).2.2 ∧ Sta nt B W (dR ρ' ((itB S items x n).1 ++ C)) (dS S.kt ρ' Z (itB S items x n).2.1 F) a w := by
  obtain ⟨ok, s1⟩ := as5 (nt := nt) (a := a) h0 h (aoy s.regs) (X := [F]) s.sat
  have s2 : Sat B w (dH S.kt ρ1 H' ++ (IS S ρ0 a items x ++ (dH S.kt ρ1 Z ++ [F]))) := s1.perm (ace _ _ _)
  exact anQ h0 ok hC hZ (s2.imp fun _ => afn) (avE s.regs) s.below s.lo
theorem amQ {ρ : Env} {R R' C : aaV} {Z H H' : S.kt.H} {a : Act} {w : World} (s : Sta nt B W (dR ρ (R' ++ (R ++ C))) (dS S.kt ρ (H ++ Z) H' F) a w) : Sta nt B W (dR ρ ((R' ++ R) ++ C)) (dS S.kt ρ Z (H' ++ H) F) a w := ⟨by rw [List.append_assoc]; exact s.regs, s.below, s.lo, s.sat.perm (by
  show (dH S.kt ρ H' ++ (dH S.kt ρ (H ++ Z) ++ [F])).Perm (dH S.kt ρ (H' ++ H) ++ (dH S.kt ρ Z ++ [F]))
  rw [dHa, dHa]; exact aaw fun f g h1 h2 h3 => by simp only [h1, h2, h3]; omega)⟩
theorem anO {α β : Type} {o : Option β} {z : α ⊕ β} (h : o.map Sum.inr = some z) : ∃ y, o = some y ∧ z = .inr y := by
  cases o with
  | none => cases h
  | some y => exact ⟨y, rfl, (Option.some.inj h).symm⟩
theorem aik {n : Nat} {Z : S.kt.H} {items : List Itm} {β : Type} {k : app S items → Option β} {R : aaV} {m : Nat} {H : S.kt.H} {z : β} (h : itF S n Z items k R m H = some z) : ∃ x H', itA S n Z items R H = some (x, H') ∧ k x = some z := by
  unfold itF at h
  split at h
  · rename_i x H' hx; exact ⟨x, H', hx, h⟩
  · cases h
theorem aau {α β : Type} {x : Option α} {f : α → Option β} {o : β} (h : x.bind f = some o) : ∃ z, x = some z ∧ f z = some o := by
  cases x with
  | none => cases h
  | some z => exact ⟨z, rfl, h⟩
theorem atC {ρ : Env} {w : World} {X : List aah} {id : Nat} {H : S.kt.H} (s : Sat B w (dH S.kt ρ H ++ X)) : Sat B w (dH S.kt ρ (axN S hs id H) ++ X) := by
  unfold axN
  split
  · exact an1 s
  · exact s
theorem ahz (hm : P.follows .mixedOrders = true) (hc : aiJ S.kt P B W call) : ∀ (c : Code) {α : Type} {out : α} {C : aaV} {Z : S.kt.H} {R : aaV} {n : Nat} {H : S.kt.H} {kn : Kt S.kt α} {ke : Nat → Kt S.kt α} {kr : Kt S.kt α} {Q : Exit → Act → World → Prop} {ρ : Env},
    ev S P call hs nt c α C Z R n H kn ke kr = some out → KOk S.kt Q nt B W C Z F out .normal ρ n kn → (∀ j, KOk S.kt Q nt B W C Z F out (.exit j) ρ n (ke j)) → KOk S.kt Q nt B W C Z F out .ret ρ n kr →
    CT none P Q nt B W c (dR ρ (R ++ C)) (dS S.kt ρ Z H F)
  | .skip, α, out, C, Z, R, n, H, kn, ke, kr, Q, ρ, h, hn, _, _ => axL (hn _ _ _ _ (aaz.refl _ _) (Nat.le_refl _) h)
  | .region id ops d, α, out, C, Z, R, n, H, kn, ke, kr, Q, ρ, h, hn, _, _ => by
    cases d with
    | false =>
      have := atx (id := id) (ash (r := none) (ops := ops) (Q := Q) hc (show rtE S.kt P call ops nt C Z ops.toList R n (axN S hs id H) kn = some out from h) hn)
      exact fun a w s => this a w ⟨s.regs, s.below, s.lo, atC s.sat⟩
    | true =>
      intro a w s
      have h1 : (Code.region id ops true).wpIn (rf none) 0 P (NP Q) a w := by
        refine wpIn_region_any hm ?_
        have s0 : Sta nt B W (dR ρ (R ++ C)) (dS S.kt ρ Z (axN S hs id H) F) a w := ⟨s.regs, s.below, s.lo, atC s.sat⟩
        have s' := (avl s0.cls).st s0.regs
        have h0 : (ass ops.toList 0 fun L => match okM ops L with
          | true => atE S.kt P call ops nt C Z L ops.size 0 [] R n (axN S hs id H) kn
          | false => none) = some out := h
        rw [aqT] at h0
        split at h0
        · rename_i hok
          exact art _ _ _ _ (ajZ rfl hok (Ob := fun _ _ _ => True) hc RelM.none aqe (fun _ h => by cases h) h0 hn (fun _ _ => trivial) (fun _ h => by cases h) (fun _ _ _ _ => trivial) _ _ s')
        · cases h0
      exact wpIn_mono h1 fun e a' w' hq => by cases e <;> first | exact hq | exact hq.elim
  | .seq x y, α, out, C, Z, R, n, H, kn, ke, kr, Q, ρ, h, hn, he, hr => by
    unfold ev at h
    split at h
    · rename_i items fz _
      split at h
      · rename_i hB
        simp only [Bool.and_eq_true] at hB
        have hC := Nat.le_of_ble_eq_true hB.1
        have hZ := Nat.le_of_ble_eq_true hB.2
        obtain ⟨z, hz, h2⟩ := aau h
        refine atw fun a w s => ?_
        have s' : Sta nt B W (dR ρ (aur (ahA x) R ++ (adO (ahA x) R ++ C))) (dS S.kt ρ ((aiy fz H).1 ++ Z) (aiy fz H).2 F) a w := ⟨aqM s.regs, s.below, s.lo, s.sat.perm (by
          show (dH S.kt ρ H ++ (dH S.kt ρ Z ++ [F])).Perm (dH S.kt ρ (aiy fz H).2 ++ (dH S.kt ρ ((aiy fz H).1 ++ Z) ++ [F]))
          rw [dHa]
          exact ((ai7 (l := fz)).append_right _).trans (aaw fun f g h1 h2 h3 => by simp only [h1, h2, h3]; omega))⟩
        refine ahz hm hc x (out := z) (Q := Exit.then (y.wpIn (rf none) 0 P Q) Q) hz ?_ ?_ ?_ a w (aqB s')
        · intro ρ' R' n' H' ha hle hk a' w' s2
          obtain ⟨x', H'', hA, hx⟩ := aik hk
          obtain rfl : x' = z := Option.some.inj hx
          obtain ⟨ρ2, a2, n2, s3⟩ := akr hA ha hC hZ s2
          have s4 : Sta nt B W (dR ρ2 (((itB S items x' n).1 ++ adO (ahA x) R) ++ C)) (dS S.kt ρ2 Z ((itB S items x' n).2.1 ++ (aiy fz H).1) F) a' w' := ⟨by rw [List.append_assoc]; exact s3.regs, s3.below, s3.lo, s3.sat.perm (by
            show (dH S.kt ρ2 (itB S items x' n).2.1 ++ (dH S.kt ρ2 ((aiy fz H).1 ++ Z) ++ [F])).Perm (dH S.kt ρ2 ((itB S items x' n).2.1 ++ (aiy fz H).1) ++ (dH S.kt ρ2 Z ++ [F]))
            rw [dHa, dHa]; exact aaw fun f g h1 h2 h3 => by simp only [h1, h2, h3]; omega)⟩
          exact ahz hm hc y h2 (hn.from a2 n2) (fun j => (he j).from a2 n2) (hr.from a2 n2) a' w' s4
        · exact fun j ρ' R' n' H' ha hle hk => by cases hk
        · exact fun ρ' R' n' H' ha hle hk => by cases hk
      · cases h
    · rename_i items fz _
      split at h
      · rename_i hB
        simp only [Bool.and_eq_true] at hB
        have hC := Nat.le_of_ble_eq_true hB.1
        have hZ := Nat.le_of_ble_eq_true hB.2
        obtain ⟨z, hz, h2⟩ := aau h
        refine atw fun a w s => ?_
        have s' : Sta nt B W (dR ρ (aur (ahA x) R ++ (adO (ahA x) R ++ C))) (dS S.kt ρ ((aiy fz H).1 ++ Z) (aiy fz H).2 F) a w := ⟨aqM s.regs, s.below, s.lo, s.sat.perm (by
          show (dH S.kt ρ H ++ (dH S.kt ρ Z ++ [F])).Perm (dH S.kt ρ (aiy fz H).2 ++ (dH S.kt ρ ((aiy fz H).1 ++ Z) ++ [F]))
          rw [dHa]
          exact ((ai7 (l := fz)).append_right _).trans (aaw fun f g h1 h2 h3 => by simp only [h1, h2, h3]; omega))⟩
        refine ahz hm hc x (out := z) (Q := Exit.then (y.wpIn (rf none) 0 P Q) Q) hz ?_ ?_ ?_ a w (aqB s')
        · intro ρ' R' n' H' ha hle hk a' w' s2
          obtain ⟨x', H'', hA, hx⟩ := aik hk
          obtain rfl : .inl x' = z := Option.some.inj hx
          obtain ⟨ρ2, a2, n2, s3⟩ := akr hA ha hC hZ s2
          exact ahz hm hc y h2 (hn.from a2 n2) (fun j => (he j).from a2 n2) (hr.from a2 n2) a' w' (amQ s3)
        · intro j ρ' R' n' H' ha hle hk a' w' s2
          obtain ⟨o, ho, rfl⟩ := anO hk
          obtain rfl : o = out := Option.some.inj h2
          exact akJ (he j ρ' _ n' _ ha hle ho) a' w' (amQ s2)
        · intro ρ' R' n' H' ha hle hk a' w' s2
          obtain ⟨o, ho, rfl⟩ := anO hk
          obtain rfl : o = out := Option.some.inj h2
          exact ame (hr ρ' _ n' _ ha hle ho) a' w' (amQ s2)
      · cases h
    · refine atw (ahz hm hc x (Q := Exit.then (y.wpIn (rf none) 0 P Q) Q) h ?_ ?_ ?_)
      · intro ρ' R' n' H' ha hle hk
        exact axF (ahz hm hc y hk (hn.from ha hle) (fun j => (he j).from ha hle) (hr.from ha hle))
      · exact fun j ρ' R' n' H' ha hle hk => akJ (he j ρ' R' n' H' ha hle hk)
      · exact fun ρ' R' n' H' ha hle hk => ame (hr ρ' R' n' H' ha hle hk)
  | .cond c x y, α, out, C, Z, R, n, H, kn, ke, kr, Q, ρ, h, hn, he, hr => by
    unfold ev at h
    split at h
    · rename_i b hb
      have hb' := aaI (ρ := ρ) hb
      cases b with
      | true => exact axK hb' (ahz hm hc x h hn he hr)
      | false => exact avg hb' (ahz hm hc y h hn he hr)
    · rename_i q d hb
      have hb' := aaI (ρ := ρ) hb
      refine @aAy _ _ _ _ _ _ _ _ _ _ _ q d hb' (fun hp => ?_) (fun hp => ?_)
      · rw [if_pos hp] at h; exact ahz hm hc x h hn he hr
      · rw [if_neg hp] at h; exact ahz hm hc y h hn he hr
    · rename_i b hb
      have hb' := aaI (ρ := ρ) hb
      refine azl hb' (fun hp => ?_) (fun hp => ?_)
      · rw [if_pos hp] at h; exact ahz hm hc x h hn he hr
      · rw [if_neg (by rw [hp]; exact Bool.false_ne_true)] at h; exact ahz hm hc y h hn he hr
    · cases h
  | .block id c, α, out, C, Z, R, n, H, kn, ke, kr, Q, ρ, h, hn, he, hr => by
    refine avh (ahz hm hc c (Q := Exit.inBlock id Q) (show ev S P call hs nt c α C Z R n H kn (fun j => match Nat.beq j id with | true => kn | false => ke j) kr = some out from h) ?_ ?_ ?_)
    · exact fun ρ' R' n' H' ha hle hk => au8 (hn ρ' R' n' H' ha hle hk)
    · intro j ρ' R' n' H' ha hle hk
      have hk' : (match Nat.beq j id with | true => kn | false => ke j) R' n' H' = some out := hk
      cases e : Nat.beq j id with
      | true =>
        rw [e] at hk'
        obtain rfl := Nat.eq_of_beq_eq_true e
        exact anX (hn ρ' R' n' H' ha hle hk')
      | false =>
        rw [e] at hk'
        exact anW (by rw [beq_eq_false_iff_ne]; intro hj; subst hj; have := Nat.beq_refl j; rw [e] at this; cases this) (he j ρ' R' n' H' ha hle hk')
    · exact fun ρ' R' n' H' ha hle hk => ao6 (hr ρ' R' n' H' ha hle hk)
  | .exit id, α, out, C, Z, R, n, H, kn, ke, kr, Q, ρ, h, _, he, _ => axM (he id _ _ _ _ (aaz.refl _ _) (Nat.le_refl _) h)
  | .ret, α, out, C, Z, R, n, H, kn, ke, kr, Q, ρ, h, _, _, hr => azk (hr _ _ _ _ (aaz.refl _ _) (Nat.le_refl _) h)
  | .loop c, α, out, C, Z, R, n, H, kn, ke, kr, Q, ρ, h, hn, he, hr => by
    unfold ev at h
    split at h
    · rename_i items fuel ex _
      split at h
      · rename_i x0 Hr hx0
        split at h
        · rename_i hB
          simp only [Bool.and_eq_true] at hB
          have hC := Nat.le_of_ble_eq_true hB.1
          have hZ := Nat.le_of_ble_eq_true hB.2
          obtain ⟨z, hz, h2⟩ := aau h
          intro a w s
          obtain ⟨ok, s1⟩ := as5 (nt := nt) (a := a) (aaz.refl n ρ) hx0 (aoy s.regs) (X := [F]) s.sat
          have s1' : Sat B w (IS S ρ a items x0 ++ tl S.kt (Hr ++ Z) F ρ) := by unfold tl; rw [dHa, List.append_assoc]; exact s1
          have J0 := anQ (nt := nt) (aaz.refl n ρ) ok hC hZ s1' (alE (l := ahA c) s.regs) s.below s.lo
          refine ahD (fun k a w => ∃ x, lpF _ k x = some z ∧ ∃ ρ', aaz n ρ ρ' ∧ n ≤ (itB S items x n).2.2 ∧ Sta nt B W (dR ρ' ((itB S items x n).1 ++ (adO (ahA c) R ++ C))) (dS S.kt ρ' (Hr ++ Z) (itB S items x n).2.1 F) a w) fuel ⟨x0, hz, J0⟩ ?_
          rintro m a' w' ⟨x, hx, ρ1, a1, n1, s2⟩
          cases m with
          | zero => cases hx
          | succ k =>
            refine ahz hm hc c (out := z) (Q := Exit.then (fun a' w' => ∃ m', m' < k + 1 ∧ ∃ x, lpF _ m' x = some z ∧ ∃ ρ', aaz n ρ ρ' ∧ n ≤ (itB S items x n).2.2 ∧ Sta nt B W (dR ρ' ((itB S items x n).1 ++ (adO (ahA c) R ++ C))) (dS S.kt ρ' (Hr ++ Z) (itB S items x n).2.1 F) a' w') Q) hx ?_ ?_ ?_ a' w' (aqB s2)
            · intro ρ2 R' n' H' ha hle hk a2 w2 s3
              obtain ⟨x', H'', hA, hx'⟩ := aik hk
              exact ⟨k, Nat.lt_succ_self k, x', hx', akr hA (a1.trans ha n1) hC hZ s3⟩
            · intro j ρ2 R' n' H' ha hle hk a2 w2 s3
              have hk' : (match Nat.beq j ex with | true => itF S n (Hr ++ Z) items (fun z => some (Sum.inl z)) | false => fun R' n' H' => (ke j (R' ++ adO (ahA c) R) n' (H' ++ Hr)).map (Sum.inr : α → app S items ⊕ α)) R' n' H' = some z := hk
              cases e : Nat.beq j ex with
              | true =>
                rw [e] at hk'
                obtain rfl := Nat.eq_of_beq_eq_true e
                obtain ⟨x', H'', hA, hx'⟩ := aik hk'
                obtain rfl : .inl x' = z := Option.some.inj hx'
                obtain ⟨ρ3, a3, n3, s4⟩ := akr hA (a1.trans ha n1) hC hZ s3
                exact he j ρ3 _ _ _ a3 n3 h2 a2 w2 (amQ s4)
              | false =>
                rw [e] at hk'
                obtain ⟨o, ho, rfl⟩ := anO hk'
                obtain rfl : o = out := Option.some.inj h2
                exact he j ρ2 _ n' _ (a1.trans ha n1) (Nat.le_trans n1 hle) ho a2 w2 (amQ s3)
            · intro ρ2 R' n' H' ha hle hk a2 w2 s3
              obtain ⟨o, ho, rfl⟩ := anO hk
              obtain rfl : o = out := Option.some.inj h2
              exact hr ρ2 _ n' _ (a1.trans ha n1) (Nat.le_trans n1 hle) ho a2 w2 (amQ s3)
        · cases h
      · cases h
    · rename_i items fuel ex _
      split at h
      · rename_i x0 Hr hx0
        split at h
        · rename_i hB
          simp only [Bool.and_eq_true] at hB
          have hC := Nat.le_of_ble_eq_true hB.1
          have hZ := Nat.le_of_ble_eq_true hB.2
          obtain ⟨z, hz, h2⟩ := aau h
          intro a w s
          obtain ⟨ok, s1⟩ := as5 (nt := nt) (a := a) (aaz.refl n ρ) hx0 (aoy s.regs) (X := [F]) s.sat
          have s1' : Sat B w (IS S ρ a items x0 ++ tl S.kt (Hr ++ Z) F ρ) := by unfold tl; rw [dHa, List.append_assoc]; exact s1
          have J0 := anQ (nt := nt) (aaz.refl n ρ) ok hC hZ s1' (alE (l := ahA c) s.regs) s.below s.lo
          refine ahD (fun k a w => ∃ x, lpF _ k x = some z ∧ ∃ ρ', aaz n ρ ρ' ∧ n ≤ (itB S items x n).2.2 ∧ Sta nt B W (dR ρ' ((itB S items x n).1 ++ (adO (ahA c) R ++ C))) (dS S.kt ρ' (Hr ++ Z) (itB S items x n).2.1 F) a w) fuel ⟨x0, hz, J0⟩ ?_
          rintro m a' w' ⟨x, hx, ρ1, a1, n1, s2⟩
          cases m with
          | zero => cases hx
          | succ k =>
            refine ahz hm hc c (out := z) (Q := Exit.then (fun a' w' => ∃ m', m' < k + 1 ∧ ∃ x, lpF _ m' x = some z ∧ ∃ ρ', aaz n ρ ρ' ∧ n ≤ (itB S items x n).2.2 ∧ Sta nt B W (dR ρ' ((itB S items x n).1 ++ (adO (ahA c) R ++ C))) (dS S.kt ρ' (Hr ++ Z) (itB S items x n).2.1 F) a' w') Q) hx ?_ ?_ ?_ a' w' (aqB s2)
            · intro ρ2 R' n' H' ha hle hk a2 w2 s3
              obtain ⟨x', H'', hA, hx'⟩ := aik hk
              exact ⟨k, Nat.lt_succ_self k, x', hx', akr hA (a1.trans ha n1) hC hZ s3⟩
            · intro j ρ2 R' n' H' ha hle hk a2 w2 s3
              have hk' : (match Nat.beq j ex with | true => itF S n (Hr ++ Z) items some | false => fun _ _ _ => none) R' n' H' = some z := hk
              cases e : Nat.beq j ex with
              | true =>
                rw [e] at hk'
                obtain rfl := Nat.eq_of_beq_eq_true e
                obtain ⟨x', H'', hA, hx'⟩ := aik hk'
                obtain rfl : x' = z := Option.some.inj hx'
                obtain ⟨ρ3, a3, n3, s4⟩ := akr hA (a1.trans ha n1) hC hZ s3
                refine he j ρ3 _ _ _ a3 n3 h2 a2 w2 ⟨by rw [List.append_assoc]; exact s4.regs, s4.below, s4.lo, s4.sat.perm ?_⟩
                show (dH S.kt ρ3 (itB S items x' n).2.1 ++ (dH S.kt ρ3 (Hr ++ Z) ++ [F])).Perm (dH S.kt ρ3 ((itB S items x' n).2.1 ++ Hr) ++ (dH S.kt ρ3 Z ++ [F]))
                rw [dHa, dHa]; exact aaw fun f g h1 h2 h3 => by simp only [h1, h2, h3]; omega
              | false =>
                rw [e] at hk'
                cases hk'
            · exact fun ρ2 R' n' H' ha hle hk => by cases hk
        · cases h
      · cases h
    · rename_i k _
      intro a w s
      refine wpIn_loop_rounds k ?_
      suffices key : ∀ (k : Nat) {R : aaV} {n : Nat} {H : S.kt.H} {ρ : Env} {a : Act} {w : World}, av4 S (fun R n H kn => ev S P call hs nt c α C Z R n H kn ke kr) k R n H = some out → (∀ j, KOk S.kt Q nt B W C Z F out (.exit j) ρ n (ke j)) → KOk S.kt Q nt B W C Z F out .ret ρ n kr →
          Sta nt B W (dR ρ (R ++ C)) (dS S.kt ρ Z H F) a w → Code.roundsIn (rf none) 0 P c Q k a w from key k h he hr s
      intro k
      induction k with
      | zero => intro R n H ρ a w h _ _ _; cases h
      | succ k ih =>
        intro R n H ρ a w h he hr s
        rw [roundsIn_succ]
        refine ahz hm hc c (Q := Exit.then (Code.roundsIn (rf none) 0 P c Q k) Q) (show ev S P call hs nt c α C Z R n H (av4 S (fun R n H kn => ev S P call hs nt c α C Z R n H kn ke kr) k) ke kr = some out from h) ?_ ?_ ?_ a w s
        · exact fun ρ' R' n' H' ha hle hk a' w' s' => ih hk (fun j => (he j).from ha hle) (hr.from ha hle) s'
        · exact fun j ρ' R' n' H' ha hle hk a' w' s' => he j ρ' R' n' H' ha hle hk a' w' s'
        · exact fun ρ' R' n' H' ha hle hk a' w' s' => hr ρ' R' n' H' ha hle hk a' w' s'
    · rename_i t vals k _
      split at h
      · rename_i kk z hgt
        obtain ⟨m, hz, h⟩ := ard h
        intro a w s
        refine wpIn_loop_rounds k ?_
        suffices key : ∀ (k : Nat) {R : aaV} {n : Nat} {H : S.kt.H} {ρ : Env} {a : Act} {w : World}, av4 S (fun R n H kn => ev S P call hs nt c α C Z R n H kn ke kr) k R n H = some out → (∀ j, KOk S.kt Q nt B W C Z F out (.exit j) ρ n (ke j)) → KOk S.kt Q nt B W C Z F out .ret ρ n kr →
            Sta nt B W (dR ρ (R ++ C)) (dS S.kt ρ Z H F) a w → Code.roundsIn (rf none) 0 P c Q k a w from key k h he hr ⟨auo hgt hz s.regs, s.below, s.lo, s.sat⟩
        intro k
        induction k with
        | zero => intro R n H ρ a w h _ _ _; cases h
        | succ k ih =>
          intro R n H ρ a w h he hr s
          rw [roundsIn_succ]
          refine ahz hm hc c (Q := Exit.then (Code.roundsIn (rf none) 0 P c Q k) Q) (show ev S P call hs nt c α C Z R n H (av4 S (fun R n H kn => ev S P call hs nt c α C Z R n H kn ke kr) k) ke kr = some out from h) ?_ ?_ ?_ a w s
          · exact fun ρ' R' n' H' ha hle hk a' w' s' => ih hk (fun j => (he j).from ha hle) (hr.from ha hle) s'
          · exact fun j ρ' R' n' H' ha hle hk a' w' s' => he j ρ' R' n' H' ha hle hk a' w' s'
          · exact fun ρ' R' n' H' ha hle hk a' w' s' => hr ρ' R' n' H' ha hle hk a' w' s'
      · cases h
    · cases h
  | .rangeFunc .., _, _, _, _, _, _, _, _, _, _, _, _, h, _, _, _ => by cases h
  | .scope _, _, _, _, _, _, _, _, _, _, _, _, _, h, _, _, _ => by cases h
  | .label _, _, _, _, _, _, _, _, _, _, _, _, _, h, _, _, _ => by cases h
  | .goto _, _, _, _, _, _, _, _, _, _, _, _, _, h, _, _, _ => by cases h
  | .refuse _, _, _, _, _, _, _, _, _, _, _, _, _, h, _, _, _ => by cases h
end
section
variable {K : KT} {P : Program} {nt B : Nat}
theorem anA {R : aaV} {H : KT.H K} {ρ : Env} {a : Act} {w : World} {X : List aah} (r : Regs nt a (dR ρ R)) (s : Sat B w (dH K ρ H ++ X)) : ∀ {rs : List ResultVar} {l : List V}, avD K P R H rs = some l →
    (rs.mapM (m := Sem) fun | .tmp t => pure (a.tmps.getD t undef) | .cell ad t => do loadVar t (← asAddr (a.tmps.getD ad undef))).run P w = .ok (aam ρ l) w
  | [], l, h => by cases h; rfl
  | .tmp t :: rs, l, h => by
    unfold avD at h
    split at h
    · rename_i v hv
      split at h
      · rename_i vs hvs
        cases h
        rw [List.mapM_cons]
        have := r.has _ (aiG (ρ := ρ) hv)
        rw [aac (a := aay ρ v) (w' := w) (by simp [Array.getD_eq_getD_getElem?, this, pure]), aac (anA r s hvs)]
        rfl
      · cases h
    · cases h
  | .cell t T :: rs, l, h => by
    unfold avD at h
    split at h
    · rename_i u hu
      split at h
      · rename_i v hv
        split at h
        · rename_i vs hvs
          cases h
          rw [List.mapM_cons]
          have hreg := r.has _ (aiG (ρ := ρ) hu)
          have hl : (do loadVar T (← asAddr (a.tmps.getD t undef)) : Sem Value).run P w = .ok (aay ρ v) w := by
            unfold ldV at hv
            split at hv
            · rename_i id o
              simp only [aay] at hreg
              have e : a.tmps.getD t undef = .pointer (some ⟨(ρ.p id).1, (ρ.p id).2 + o, none⟩) := by simp [Array.getD_eq_getD_getElem?, hreg]
              rw [e]
              rw [aac (a := (⟨(ρ.p id).1, (ρ.p id).2 + o, none⟩ : Addr)) (w' := w) rfl]
              split at hv
              · rename_i hT
                exact ag2 (us := [aay ρ v]) hT rfl (fun j u hj => by
                  cases j with
                  | zero => simp at hj; subst hj; exact aqP hv s
                  | succ j => simp at hj) rfl
              · rename_i k hT
                simp only [Option.map_eq_some_iff] at hv
                obtain ⟨l, hl, rfl⟩ := hv
                obtain ⟨h1, h2⟩ := aqO hl s
                exact ag2 hT (by rw [aaN]; simpa using h1) h2 rfl
              · cases hv
            · cases hv
          rw [aac hl, aac (anA r s hvs)]
          rfl
        · cases h
      · cases h
    · cases h
theorem aqw {ρ : Env} (l : List V) : aqv (aam ρ l) = aay ρ (av6 l) := by
  match l with
  | [] => rfl
  | [v] => rfl
  | _ :: _ :: _ => rfl
theorem alA {fn : Func} {R : aaV} {H : KT.H K} {ρ : Env} {a : Act} {w : World} {X : List aah} {l : List V} (r : Regs nt a (dR ρ R)) (s : Sat B w (dH K ρ H ++ X)) (h : avD K P R H fn.results.toList = some l) : (results fn a.tmps).run P w = .ok (aay ρ (av6 l)) w := by
  unfold results
  have e : fn.results = fn.results.toList.toArray := by simp
  rw [e, ← aqw]
  simp only [List.mapM_toArray]
  rw [aac (a := (aam ρ l).toArray) (w' := w) (by
    rw [map_eq_pure_bind]
    exact aac (anA r s h))]
  match l with
  | [] => rfl
  | [v] => rfl
  | _ :: _ :: _ => rfl
end
def awT : Nat → List V → aaV
  | _, [] => []
  | i, v :: l => (i, v) :: awT (i + 1) l
section
variable (S : Shp) (P : Program)
noncomputable def evF (call : ai1 S.kt) (hs : List (Nat × Hint)) {α : Type} (fn : Func) (vs : List V) (n : Nat) (Z H : S.kt.H) (k : Nat → S.kt.H → V → Option α) : Option α :=
  match fn.body with
  | some c => match Nat.ble vs.length fn.ntmps with
    | true => ev S P call hs fn.ntmps c α [] Z (awT 0 vs) n H
      (fun R n H => match avD S.kt P R H fn.results.toList with | some l => k n H (av6 l) | none => none) (fun _ _ _ _ => none)
      (fun R n H => match avD S.kt P R H fn.results.toList with | some l => k n H (av6 l) | none => none)
    | false => none
  | none => none
noncomputable def inl (tb : List (Nat × Func)) (hs : Nat → List (Nat × Hint)) (known : ai1 S.kt) : Nat → ai1 S.kt
  | 0 => known
  | m + 1 => fun α f vs n Z H k => match get tb f with
    | some fn => match Nat.blt f afz with
      | true => evF S P (inl tb hs known m) (hs f) fn vs n Z H k
      | false => none
    | none => known α f vs n Z H k
end
section
variable {S : Shp} {P : Program} {B : Nat} {W : World} {hs : List (Nat × Hint)}
theorem aoz : ∀ (l : List V) (i : Nat) (ρ : Env) (p : Nat × Value), p ∈ dR ρ (awT i l) → i ≤ p.1 ∧ (aam ρ l)[p.1 - i]? = some p.2
  | [], _, _, _, h => by cases h
  | v :: l, i, ρ, p, h => by
    rcases List.mem_cons.1 h with e | e
    · subst e
      exact ⟨Nat.le_refl _, by simp [aam]⟩
    · obtain ⟨h1, h2⟩ := aoz l (i + 1) ρ p e
      refine ⟨by omega, ?_⟩
      obtain ⟨m, hm⟩ : ∃ m, p.1 - i = m + 1 := ⟨p.1 - (i + 1), by omega⟩
      rw [hm, aam, List.getElem?_cons_succ, ← h2]
      congr 1; omega
theorem avU (hm : P.follows .mixedOrders = true) {call : ai1 S.kt} (hc : aiJ S.kt P B W call) {α : Type} {fid : FuncId} {fn : Func} (hf : P.funcs[fid]? = some fn) {vs : List V} {n : Nat} {Z H : S.kt.H} {k : Nat → S.kt.H → V → Option α} {out : α} (h : evF S P call hs fn vs n Z H k = some out) {F : aah} {ρ : Env} {w : World}
    (hw : Cls B W (dS S.kt ρ Z H F) w) : Calls P fid (aam ρ vs).toArray w fun e w' => ∃ x : Nx S.kt, (aaz n ρ x.ρ ∧ n ≤ x.n ∧ k x.n x.H x.v = some out) ∧ e = .returned (aay x.ρ x.v) ∧ Cls B W (dS S.kt x.ρ Z x.H F) w' := by
  unfold evF at h
  split at h
  · rename_i c hb
    split at h
    · rename_i hle
      have hle' := Nat.le_of_ble_eq_true hle
      refine calls_of_wp hf hb (wpIn_wide (n := 0).1 ?_)
      have key := ahz (nt := fn.ntmps) (B := B) (W := W) (F := F) hm hc c (Q := bodyPost P fn fun e w' => ∃ x : Nx S.kt, (aaz n ρ x.ρ ∧ n ≤ x.n ∧ k x.n x.H x.v = some out) ∧ e = .returned (aay x.ρ x.v) ∧ Cls B W (dS S.kt x.ρ Z x.H F) w') (ρ := ρ) h ?_ ?_ ?_
      · refine key _ w (hw.st ⟨by simp [aaN]; omega, rfl, fun p hp => ?_⟩)
        rw [List.append_nil] at hp
        obtain ⟨_, h2⟩ := aoz vs 0 ρ p hp
        rw [Nat.sub_zero] at h2
        have hlt := (List.getElem?_eq_some_iff.1 h2).1
        rw [Array.getElem?_append_left (by simpa using hlt)]
        simpa using h2
      · intro ρ' R' n' H' ha hn hk a w' s
        rw [List.append_nil] at s
        dsimp only at hk
        split at hk
        · rename_i l hl
          exact ⟨s.regs.defers, _, alA s.regs s.sat hl, ⟨ρ', n', H', av6 l⟩, ⟨ha, hn, hk⟩, rfl, s.cls⟩
        · cases hk
      · exact fun j ρ' R' n' H' ha hn hk => by cases hk
      · intro ρ' R' n' H' ha hn hk a w' s
        rw [List.append_nil] at s
        dsimp only at hk
        split at hk
        · rename_i l hl
          exact bodyPost_ret (alA s.regs s.sat hl) s.regs.defers ⟨⟨ρ', n', H', av6 l⟩, ⟨ha, hn, hk⟩, rfl, s.cls⟩
        · cases hk
    · cases h
  · cases h
theorem avR (hm : P.follows .mixedOrders = true) {tb : List (Nat × Func)} {hs : Nat → List (Nat × Hint)} (ht : ∀ p ∈ tb, P.funcs[p.1]? = some p.2) {known : ai1 S.kt} (hk : aiJ S.kt P B W known) : ∀ m, aiJ S.kt P B W (inl S P tb hs known m)
  | 0 => hk
  | m + 1 => fun α f vs n Z H k out h h1 h2 h3 F ρ w hw => by
    unfold inl at h
    split at h
    · rename_i fn hg
      split at h
      · rename_i hb
        rw [ac9 hb]
        exact avU hm (avR hm ht hk m) (ht _ (ap5 hg)) h hw
      · cases h
    · exact hk α f vs n Z H k out h h1 h2 h3 F ρ w hw
end
class Tb where
  tb : Nat → Int
  rg : ∀ i, 0 ≤ tb i ∧ tb i ≤ 255
def ax8 [T : Tb] (B : Nat) (W : World) : Prop := 0 < B ∧ ∀ i : Nat, i < 64 → W.cell? ⟨0, i, none⟩ = some (.int .u8 (T.tb i))
inductive Pk where
  | sh (s : Sh)
  | val (c : Nat)
  | ref (c : Nat)
  | mch
  | lent (c : Nat)
inductive Rk where
  | sh (s : Sh)
  | val (c : Nat)
section
variable (S : Shp)
def pkT : Pk → Type
  | .sh s => shT S.T S.M s
  | .val c => S.T c
  | .ref c => S.T c
  | .mch => S.M
  | .lent c => List (S.T c)
def amy : List Pk → Type
  | [] => Unit
  | p :: l => pkT S p × amy l
def rkT : Rk → Type
  | .sh s => shT S.T S.M s
  | .val c => S.T c
def amB : List Rk → Type
  | [] => Unit
  | p :: l => rkT S p × amB l
def akA : List Pk → Type
  | [] => Unit
  | .ref c :: l => S.T c × akA l
  | .mch :: l => S.M × akA l
  | .lent c :: l => List (S.T c) × akA l
  | .sh _ :: l => akA l
  | .val _ :: l => akA l
def auh (c : Nat) (x : S.T c) (v : Value) : aah := fun h => ∃ us : List Value, v = .agg us.toArray ∧ abh (fsS (pcS S.kt) (S.kt.vw c x) us) h
def amz : (ps : List Pk) → amy S ps → List Value → List aah
  | [], _, [] => []
  | .sh s :: ps, x, v :: vs => pcS S.kt (vw1 S.T S.M s x.1) v :: amz ps x.2 vs
  | .val c :: ps, x, v :: vs => auh S c x.1 v :: amz ps x.2 vs
  | .ref c :: ps, x, v :: vs => pcS S.kt (.own c x.1) v :: amz ps x.2 vs
  | .mch :: ps, x, v :: vs => pcS S.kt (.mach x.1) v :: amz ps x.2 vs
  | .lent c :: ps, x, v :: vs => pcS S.kt (.row c x.1) v :: amz ps x.2 vs
  | _, _, _ => [fun _ => False]
def agc : (ps : List Pk) → akA S ps → List Value → List aah
  | [], _, _ => []
  | .sh _ :: ps, x, _ :: vs => agc ps x vs
  | .val _ :: ps, x, _ :: vs => agc ps x vs
  | .ref c :: ps, x, v :: vs => pcS S.kt (.own c x.1) v :: agc ps x.2 vs
  | .mch :: ps, x, v :: vs => pcS S.kt (.mach x.1) v :: agc ps x.2 vs
  | .lent c :: ps, x, v :: vs => pcS S.kt (.row c x.1) v :: agc ps x.2 vs
  | _ :: _, _, [] => []
def aoh : (rs : List Rk) → amB S rs → List Value → List aah
  | [], _, [] => []
  | .sh s :: rs, x, v :: vs => pcS S.kt (vw1 S.T S.M s x.1) v :: aoh rs x.2 vs
  | .val c :: rs, x, v :: vs => auh S c x.1 v :: aoh rs x.2 vs
  | _, _, _ => [fun _ => False]
def at6 [Tb] (P : Program) (f : FuncId) (ps : List Pk) (rs : List Rk) (spec : amy S ps → Option (amB S rs × akA S ps)) : Prop :=
  ∀ x out, spec x = some out → ∀ B W, ax8 B W → ∀ vs F w, Cls B W (amz S ps x vs ++ [F]) w → aeD P f vs.toArray w fun e w' => ∃ us, e = .returned (aqv us) ∧ Cls B W (aoh S rs out.1 us ++ (agc S ps out.2 vs ++ [F])) w'
def cin : (ps : List Pk) → amy S ps → Nat → List V × List (Nat × Ch S.T S.M) × Nat
  | [], _, n => ([], [], n)
  | .sh s :: ps, x, n => ((opF S.kt.vw n (.f (vw1 S.T S.M s x.1))).1 :: (cin ps x.2 (n + 1)).1, chL S n (opF S.kt.vw n (.f (vw1 S.T S.M s x.1))).2 ++ (cin ps x.2 (n + 1)).2.1, (cin ps x.2 (n + 1)).2.2)
  | .ref c :: ps, x, n => (.ptr n 0 :: (cin ps x.2 (n + 1)).1, (n, .cells ((S.kt.vw c x.1).map .f)) :: (cin ps x.2 (n + 1)).2.1, (cin ps x.2 (n + 1)).2.2)
  | .mch :: ps, x, n => (.mc n :: (cin ps x.2 (n + 1)).1, (n, .mach x.1) :: (cin ps x.2 (n + 1)).2.1, (cin ps x.2 (n + 1)).2.2)
  | .lent c :: ps, x, n => (.sl n :: (cin ps x.2 (n + 1)).1, (n, .row c x.1) :: (cin ps x.2 (n + 1)).2.1, (cin ps x.2 (n + 1)).2.2)
  | .val c :: ps, x, n => (.agg (opL S n (S.kt.vw c x.1)).1 :: (cin ps x.2 (n + S.kt.sz c)).1, (opL S n (S.kt.vw c x.1)).2 ++ (cin ps x.2 (n + S.kt.sz c)).2.1, (cin ps x.2 (n + S.kt.sz c)).2.2)
def apq : (rs : List Rk) → amB S rs → Nat → List V × List (Nat × Ch S.T S.M) × Nat
  | [], _, n => ([], [], n)
  | .sh s :: rs, x, n => ((opF S.kt.vw n (.f (vw1 S.T S.M s x.1))).1 :: (apq rs x.2 (n + 1)).1, chL S n (opF S.kt.vw n (.f (vw1 S.T S.M s x.1))).2 ++ (apq rs x.2 (n + 1)).2.1, (apq rs x.2 (n + 1)).2.2)
  | .val c :: rs, x, n => (.agg (opL S n (S.kt.vw c x.1)).1 :: (apq rs x.2 (n + S.kt.sz c)).1, (opL S n (S.kt.vw c x.1)).2 ++ (apq rs x.2 (n + S.kt.sz c)).2.1, (apq rs x.2 (n + S.kt.sz c)).2.2)
end
section
variable {S : Shp} {B : Nat} {w : World}
theorem apB {c : Nat} {x : S.T c} {v : Value} {L : List aah} (s : Sat B w (auh S c x v :: L)) : ∃ us : List Value, v = .agg us.toArray ∧ Sat B w (fsS (pcS S.kt) (S.kt.vw c x) us ++ L) := by
  obtain ⟨h, Hh, k1, k2, a, e, ⟨us, h1, h2⟩, hL⟩ := s
  exact ⟨us, h1, h, Hh, aao.2 ⟨k1, k2, a, e, h2, hL⟩⟩
theorem amn : ∀ {ps : List Pk} {x : amy S ps} {n : Nat} {vs : List Value} {ρ : Env} {X : Env → List aah}, (∀ ρ ρ', aaz n ρ ρ' → X ρ = X ρ') → Sat B w (amz S ps x vs ++ X ρ) →
    ∃ ρ', aaz n ρ ρ' ∧ vs = aam ρ' (cin S ps x n).1 ∧ Sat B w (dH S.kt ρ' (cin S ps x n).2.1 ++ X ρ')
  | [], x, n, [], ρ, X, hX, s => ⟨ρ, aaz.refl _ _, rfl, s⟩
  | [], x, n, _ :: _, ρ, X, hX, s => aaG s
  | .sh s0 :: ps, x, n, [], ρ, X, hX, s => aaG s
  | .val c :: ps, x, n, [], ρ, X, hX, s => aaG s
  | .ref c :: ps, x, n, [], ρ, X, hX, s => aaG s
  | .mch :: ps, x, n, [], ρ, X, hX, s => aaG s
  | .lent c :: ps, x, n, [], ρ, X, hX, s => aaG s
  | .sh s0 :: ps, x, n, v :: vs, ρ, X, hX, s => by
    obtain ⟨ρ1, a1, e1, s1⟩ := alS (n := n) (f := vw1 S.T S.M s0 x.1) (Y := amz S ps x.2 vs) hX s
    obtain ⟨ρ2, a2, e2, s2⟩ := amn (n := n + 1) (arJ (f := vw1 S.T S.M s0 x.1) hX) s1
    have htop := (ag0 (K := S.kt) (n := n) (f := .f (vw1 S.T S.M s0 x.1)) (Nat.zero_le _)).1
    refine ⟨ρ2, a1.trans a2 (Nat.le_succ n), ?_, ?_⟩
    · simp only [cin, aam]
      rw [e1, ← e2, aa0 a2 _ htop]
    · simp only [cin, dHa]
      refine s2.perm ?_
      rw [List.append_assoc]
      exact ace _ _ _
  | .ref c :: ps, x, n, v :: vs, ρ, X, hX, s => by
    obtain ⟨ρ1, a1, e1, s1⟩ := alS (n := n) (f := .own c x.1) (Y := amz S ps x.2 vs) hX s
    obtain ⟨ρ2, a2, e2, s2⟩ := amn (n := n + 1) (arJ (f := .own c x.1) hX) s1
    have htop := (ag0 (K := S.kt) (n := n) (f := .f (.own c x.1)) (Nat.zero_le _)).1
    refine ⟨ρ2, a1.trans a2 (Nat.le_succ n), ?_, ?_⟩
    · simp only [cin, aam]
      rw [e1, ← e2, aa0 a2 _ htop]
      rfl
    · have : dH S.kt ρ2 (cin S (.ref c :: ps) x n).2.1 = dH S.kt ρ2 (chL S n (opF S.kt.vw n (.f (.own c x.1))).2) ++ dH S.kt ρ2 (cin S ps x.2 (n + 1)).2.1 := rfl
      rw [this]
      refine s2.perm ?_
      rw [List.append_assoc]
      exact ace _ _ _
  | .mch :: ps, x, n, v :: vs, ρ, X, hX, s => by
    obtain ⟨ρ1, a1, e1, s1⟩ := alS (n := n) (f := .mach x.1) (Y := amz S ps x.2 vs) hX s
    obtain ⟨ρ2, a2, e2, s2⟩ := amn (n := n + 1) (arJ (f := .mach x.1) hX) s1
    have htop := (ag0 (K := S.kt) (n := n) (f := .f (.mach x.1)) (Nat.zero_le _)).1
    refine ⟨ρ2, a1.trans a2 (Nat.le_succ n), ?_, ?_⟩
    · simp only [cin, aam]
      rw [e1, ← e2, aa0 a2 _ htop]
      rfl
    · have : dH S.kt ρ2 (cin S (.mch :: ps) x n).2.1 = dH S.kt ρ2 (chL S n (opF S.kt.vw n (.f (.mach x.1))).2) ++ dH S.kt ρ2 (cin S ps x.2 (n + 1)).2.1 := rfl
      rw [this]
      refine s2.perm ?_
      rw [List.append_assoc]
      exact ace _ _ _
  | .lent c :: ps, x, n, v :: vs, ρ, X, hX, s => by
    obtain ⟨ρ1, a1, e1, s1⟩ := alS (n := n) (f := .row c x.1) (Y := amz S ps x.2 vs) hX s
    obtain ⟨ρ2, a2, e2, s2⟩ := amn (n := n + 1) (arJ (f := .row c x.1) hX) s1
    have htop := (ag0 (K := S.kt) (n := n) (f := .f (.row c x.1)) (Nat.zero_le _)).1
    refine ⟨ρ2, a1.trans a2 (Nat.le_succ n), ?_, ?_⟩
    · simp only [cin, aam]
      rw [e1, ← e2, aa0 a2 _ htop]
      rfl
    · have : dH S.kt ρ2 (cin S (.lent c :: ps) x n).2.1 = dH S.kt ρ2 (chL S n (opF S.kt.vw n (.f (.row c x.1))).2) ++ dH S.kt ρ2 (cin S ps x.2 (n + 1)).2.1 := rfl
      rw [this]
      refine s2.perm ?_
      rw [List.append_assoc]
      exact ace _ _ _
  | .val c :: ps, x, n, v :: vs, ρ, X, hX, s => by
    obtain ⟨us, hv, s0⟩ := apB s
    obtain ⟨ρ1, a1, e1, s1⟩ := asQ (n := n) (l := S.kt.vw c x.1) (Y := amz S ps x.2 vs) hX s0
    obtain ⟨ρ2, a2, e2, s2⟩ := amn (n := n + S.kt.sz c) (aza (S.kt.sz_ok c x.1) hX) s1
    refine ⟨ρ2, a1.trans a2 (Nat.le_add_right ..), ?_, ?_⟩
    · simp only [cin, aam, aay]
      rw [hv, e1, ← e2, (ajC (a2.le (Nat.le_of_eq (congrArg (n + ·) (S.kt.sz_ok c x.1))))).1]
    · simp only [cin, dHa]
      refine s2.perm ?_
      rw [List.append_assoc]
      exact ace _ _ _
theorem aqb : ∀ {rs : List Rk} {x : amB S rs} {n : Nat} {vs : List Value} {ρ : Env} {X : Env → List aah}, (∀ ρ ρ', aaz n ρ ρ' → X ρ = X ρ') → Sat B w (aoh S rs x vs ++ X ρ) →
    ∃ ρ', aaz n ρ ρ' ∧ vs = aam ρ' (apq S rs x n).1 ∧ Sat B w (dH S.kt ρ' (apq S rs x n).2.1 ++ X ρ')
  | [], x, n, [], ρ, X, hX, s => ⟨ρ, aaz.refl _ _, rfl, s⟩
  | [], x, n, _ :: _, ρ, X, hX, s => aaG s
  | .sh s0 :: ps, x, n, [], ρ, X, hX, s => aaG s
  | .val c :: ps, x, n, [], ρ, X, hX, s => aaG s
  | .sh s0 :: ps, x, n, v :: vs, ρ, X, hX, s => by
    obtain ⟨ρ1, a1, e1, s1⟩ := alS (n := n) (f := vw1 S.T S.M s0 x.1) (Y := aoh S ps x.2 vs) hX s
    obtain ⟨ρ2, a2, e2, s2⟩ := aqb (n := n + 1) (arJ (f := vw1 S.T S.M s0 x.1) hX) s1
    have htop := (ag0 (K := S.kt) (n := n) (f := .f (vw1 S.T S.M s0 x.1)) (Nat.zero_le _)).1
    refine ⟨ρ2, a1.trans a2 (Nat.le_succ n), ?_, ?_⟩
    · simp only [apq, aam]
      rw [e1, ← e2, aa0 a2 _ htop]
    · simp only [apq, dHa]
      refine s2.perm ?_
      rw [List.append_assoc]
      exact ace _ _ _
  | .val c :: ps, x, n, v :: vs, ρ, X, hX, s => by
    obtain ⟨us, hv, s0⟩ := apB s
    obtain ⟨ρ1, a1, e1, s1⟩ := asQ (n := n) (l := S.kt.vw c x.1) (Y := aoh S ps x.2 vs) hX s0
    obtain ⟨ρ2, a2, e2, s2⟩ := aqb (n := n + S.kt.sz c) (aza (S.kt.sz_ok c x.1) hX) s1
    refine ⟨ρ2, a1.trans a2 (Nat.le_add_right ..), ?_, ?_⟩
    · simp only [apq, aam, aay]
      rw [hv, e1, ← e2, (ajC (a2.le (Nat.le_of_eq (congrArg (n + ·) (S.kt.sz_ok c x.1))))).1]
    · simp only [apq, dHa]
      refine s2.perm ?_
      rw [List.append_assoc]
      exact ace _ _ _
end
section
variable (S : Shp)
def azL (H : S.kt.H) (c : Nat) (v : V) : Option (S.T c × S.kt.H) :=
  match v with
  | .agg l => match apr S.kt (asm S.kt) H (S.kt.vw c (S.kt.df c)) (l.map .v) with
    | some (fs, H') => match S.kt.bk c fs with
      | some x => some (x, H')
      | none => none
    | none => none
  | _ => none
def ax6 : (rs : List Rk) → S.kt.H → List V → Option (amB S rs × S.kt.H)
  | [], H, [] => some ((), H)
  | .sh s :: rs, H, v :: vs => match atW S H s v with
    | some (x, H1) => match ax6 rs H1 vs with
      | some (r, H2) => some ((x, r), H2)
      | none => none
    | none => none
  | .val c :: rs, H, v :: vs => match azL S H c v with
    | some (x, H1) => match ax6 rs H1 vs with
      | some (r, H2) => some ((x, r), H2)
      | none => none
    | none => none
  | _, _, _ => none
def aud : (ps : List Pk) → Nat → S.kt.H → Option (akA S ps × S.kt.H)
  | [], _, H => some ((), H)
  | .sh _ :: ps, n, H => aud ps (n + 1) H
  | .val c :: ps, n, H => aud ps (n + S.kt.sz c) H
  | .ref c :: ps, n, H => match atW S H (.own c) (.ptr n 0) with
    | some (x, H1) => match aud ps (n + 1) H1 with
      | some (r, H2) => some ((x, r), H2)
      | none => none
    | none => none
  | .mch :: ps, n, H => match atW S H .mach (.mc n) with
    | some (x, H1) => match aud ps (n + 1) H1 with
      | some (r, H2) => some ((x, r), H2)
      | none => none
    | none => none
  | .lent c :: ps, n, H => match atW S H (.row c) (.sl n) with
    | some (x, H1) => match aud ps (n + 1) H1 with
      | some (r, H2) => some ((x, r), H2)
      | none => none
    | none => none
def azT : List Rk → V → Option (List V)
  | [_], v => some [v]
  | _, .tup l => match Nat.beq l.length 1 with
    | true => none
    | false => some l
  | _, _ => none
def axY (ps : List Pk) (rs : List Rk) : Nat → S.kt.H → V → Option (amB S rs × akA S ps) := fun _ H v =>
  match azT rs v with
  | some l => match ax6 S rs (azI S.kt H) l with
    | some (r, H1) => match aud S ps 0 H1 with
      | some (o, _) => some (r, o)
      | none => none
    | none => none
  | none => none
end
section
variable {S : Shp} {B : Nat} {w : World}
theorem atU {H H' : S.kt.H} {c : Nat} {v : V} {x : S.T c} (h : azL S H c v = some (x, H')) {ρ : Env} {X : List aah} (s : Sat B w (dH S.kt ρ H ++ X)) : Sat B w (auh S c x (aay ρ v) :: (dH S.kt ρ H' ++ X)) := by
  unfold azL at h
  split at h
  · rename_i l
    split at h
    · rename_i fs H1 hl
      split at h
      · rename_i y hy
        cases h
        have s1 := ahe amv hl (ρ := ρ) (X := X) (vs := aam ρ l) (s.imp fun k hk => ag4 hk)
        rw [← S.kt.bk_ok _ _ _ hy] at s1
        refine s1.imp fun k hk => ?_
        obtain ⟨k1, k2, a, e, g1, g2⟩ := aao.1 hk
        exact ⟨k1, k2, a, e, ⟨aam ρ l, rfl, g1⟩, g2⟩
      · cases h
    · cases h
  · cases h
theorem aoc : ∀ {rs : List Rk} {H H' : S.kt.H} {vs : List V} {r : amB S rs}, ax6 S rs H vs = some (r, H') → ∀ {ρ : Env} {X : List aah}, Sat B w (dH S.kt ρ H ++ X) → Sat B w (aoh S rs r (aam ρ vs) ++ (dH S.kt ρ H' ++ X))
  | [], H, H', [], r, h, ρ, X, s => by cases h; exact s
  | [], _, _, _ :: _, _, h, _, _, _ => by cases h
  | .sh s0 :: rs, H, H', [], r, h, _, _, _ => by cases h
  | .val c :: rs, H, H', [], r, h, _, _, _ => by cases h
  | .sh s0 :: rs, H, H', v :: vs, r, h, ρ, X, s => by
    unfold ax6 at h
    split at h
    · rename_i x H1 h1
      split at h
      · rename_i r' H2 h2
        cases h
        have s1 := ahf h1 s
        have s2 := aoc h2 (X := pcS S.kt (vw1 S.T S.M s0 x) (aay ρ v) :: X) (s1.perm (List.perm_middle (l₁ := dH S.kt ρ H1)).symm)
        exact s2.perm (aiv _ _ _ _)
      · cases h
    · cases h
  | .val c :: rs, H, H', v :: vs, r, h, ρ, X, s => by
    unfold ax6 at h
    split at h
    · rename_i x H1 h1
      split at h
      · rename_i r' H2 h2
        cases h
        have s1 := atU h1 s
        have s2 := aoc h2 (X := auh S c x (aay ρ v) :: X) (s1.perm (List.perm_middle (l₁ := dH S.kt ρ H1)).symm)
        exact s2.perm (aiv _ _ _ _)
      · cases h
    · cases h
def amw (S : Shp) (ρ : Env) : List Pk → Nat → List Value → Prop
  | [], _, _ => True
  | .sh _ :: ps, n, _ :: vs => amw S ρ ps (n + 1) vs
  | .val c :: ps, n, _ :: vs => amw S ρ ps (n + S.kt.sz c) vs
  | .ref _ :: ps, n, v :: vs => v = aay ρ (.ptr n 0) ∧ amw S ρ ps (n + 1) vs
  | .mch :: ps, n, v :: vs => v = aay ρ (.mc n) ∧ amw S ρ ps (n + 1) vs
  | .lent _ :: ps, n, v :: vs => v = aay ρ (.sl n) ∧ amw S ρ ps (n + 1) vs
  | _ :: _, _, [] => False
theorem aiZ : ∀ {ps : List Pk} {n : Nat} {H H' : S.kt.H} {o : akA S ps}, aud S ps n H = some (o, H') → ∀ {ρ : Env} {vs : List Value} {X : List aah}, amw S ρ ps n vs → Sat B w (dH S.kt ρ H ++ X) → Sat B w (agc S ps o vs ++ (dH S.kt ρ H' ++ X))
  | [], n, H, H', o, h, ρ, vs, X, _, s => by
    cases h
    cases vs <;> exact s
  | _ :: _, n, H, H', o, h, ρ, [], X, ha, s => by
    rename_i p ps
    cases p <;> exact ha.elim
  | .sh _ :: ps, n, H, H', o, h, ρ, v :: vs, X, ha, s => aiZ (ps := ps) (n := n + 1) h ha s
  | .val c :: ps, n, H, H', o, h, ρ, v :: vs, X, ha, s => aiZ (ps := ps) (n := n + S.kt.sz c) h ha s
  | .ref c :: ps, n, H, H', o, h, ρ, v :: vs, X, ha, s => by
    unfold aud at h
    split at h
    · rename_i x H1 h1
      split at h
      · rename_i r H2 h2
        cases h
        have s1 := ahf h1 s
        have s2 := aiZ h2 (X := pcS S.kt (vw1 S.T S.M (.own c) x) (aay ρ (.ptr n 0)) :: X) ha.2 (s1.perm (List.perm_middle (l₁ := dH S.kt ρ H1)).symm)
        have s3 := s2.perm (aiv _ _ _ _)
        rw [← ha.1] at s3
        exact s3
      · cases h
    · cases h
  | .mch :: ps, n, H, H', o, h, ρ, v :: vs, X, ha, s => by
    unfold aud at h
    split at h
    · rename_i x H1 h1
      split at h
      · rename_i r H2 h2
        cases h
        have s1 := ahf h1 s
        have s2 := aiZ h2 (X := pcS S.kt (vw1 S.T S.M .mach x) (aay ρ (.mc n)) :: X) ha.2 (s1.perm (List.perm_middle (l₁ := dH S.kt ρ H1)).symm)
        have s3 := s2.perm (aiv _ _ _ _)
        rw [← ha.1] at s3
        exact s3
      · cases h
    · cases h
  | .lent c :: ps, n, H, H', o, h, ρ, v :: vs, X, ha, s => by
    unfold aud at h
    split at h
    · rename_i x H1 h1
      split at h
      · rename_i r H2 h2
        cases h
        have s1 := ahf h1 s
        have s2 := aiZ h2 (X := pcS S.kt (vw1 S.T S.M (.row c) x) (aay ρ (.sl n)) :: X) ha.2 (s1.perm (List.perm_middle (l₁ := dH S.kt ρ H1)).symm)
        have s3 := s2.perm (aiv _ _ _ _)
        rw [← ha.1] at s3
        exact s3
      · cases h
    · cases h
theorem ahb : ∀ {ps : List Pk} {x : amy S ps} {n : Nat} {ρ ρ' : Env} {vs : List Value}, vs = aam ρ (cin S ps x n).1 → aaz (cin S ps x n).2.2 ρ ρ' → amw S ρ' ps n vs ∧ n ≤ (cin S ps x n).2.2
  | [], x, n, ρ, ρ', vs, h, a => ⟨trivial, Nat.le_refl _⟩
  | .sh s0 :: ps, x, n, ρ, ρ', vs, h, a => by
    subst h
    obtain ⟨h1, h2⟩ := ahb (ps := ps) (x := x.2) (n := n + 1) rfl a
    exact ⟨h1, Nat.le_trans (Nat.le_succ n) h2⟩
  | .val c :: ps, x, n, ρ, ρ', vs, h, a => by
    subst h
    obtain ⟨h1, h2⟩ := ahb (ps := ps) (x := x.2) (n := n + S.kt.sz c) rfl a
    exact ⟨h1, Nat.le_trans (Nat.le_add_right ..) h2⟩
  | .ref c :: ps, x, n, ρ, ρ', vs, h, a => by
    subst h
    obtain ⟨h1, h2⟩ := ahb (ps := ps) (x := x.2) (n := n + 1) rfl a
    refine ⟨⟨?_, h1⟩, Nat.le_trans (Nat.le_succ n) h2⟩
    exact aa0 (v := .ptr n 0) (n := n + 1) (a.le h2) (Nat.le_refl _)
  | .mch :: ps, x, n, ρ, ρ', vs, h, a => by
    subst h
    obtain ⟨h1, h2⟩ := ahb (ps := ps) (x := x.2) (n := n + 1) rfl a
    refine ⟨⟨?_, h1⟩, Nat.le_trans (Nat.le_succ n) h2⟩
    exact aa0 (v := .mc n) (n := n + 1) (a.le h2) (Nat.le_refl _)
  | .lent c :: ps, x, n, ρ, ρ', vs, h, a => by
    subst h
    obtain ⟨h1, h2⟩ := ahb (ps := ps) (x := x.2) (n := n + 1) rfl a
    refine ⟨⟨?_, h1⟩, Nat.le_trans (Nat.le_succ n) h2⟩
    exact aa0 (v := .sl n) (n := n + 1) (a.le h2) (Nat.le_refl _)
theorem aqK {rs : List Rk} {v : V} {l : List V} (h : azT rs v = some l) (ρ : Env) : aay ρ v = aqv (aam ρ l) := by
  unfold azT at h
  split at h
  · cases h; rfl
  · split at h
    · cases h
    · rename_i l' hne
      cases h
      match l, hne with
      | [], _ => rfl
      | [_], hne => cases hne
      | _ :: _ :: _, _ => rfl
  · cases h
theorem avj [Tb] {P : Program} (hm : P.follows .mixedOrders = true) {f : FuncId} {fn : Func} (hf : P.funcs[f]? = some fn) {call : ai1 S.kt} (hc : ∀ B W, ax8 B W → aiJ S.kt P B W call) {hs : List (Nat × Hint)} {ps : List Pk} {rs : List Rk} {spec : amy S ps → Option (amB S rs × akA S ps)}
    (h : ∀ x, evF S P call hs fn (cin S ps x 0).1 (cin S ps x 0).2.2 [] (cin S ps x 0).2.1 (axY S ps rs) = spec x) (hb : Nat.blt f afz = true := by rfl) : at6 S P f ps rs spec := by
  intro x out hx B W hg vs F w hw
  obtain ⟨ρ, _, e1, s1⟩ := amn (n := 0) (ρ := ⟨fun _ => (0, 0), fun _ => ⟨none, 0, 0⟩, fun _ => undef⟩) (X := fun _ => [F]) (fun _ _ _ => rfl) hw.2.2
  have s2 : Cls B W (dS S.kt ρ [] (cin S ps x 0).2.1 F) w := ⟨hw.1, hw.2.1, s1⟩
  have h1 := avU hm (hc B W hg) hf ((h x).trans hx) s2
  rw [← e1] at h1
  rw [ac9 hb]
  refine h1.mono fun e w' ⟨y, ⟨ha, hn, hk⟩, he, hb1, hb2, hs⟩ => ?_
  unfold axY at hk
  split at hk
  · rename_i l hl
    split at hk
    · rename_i r H1 hr
      split at hk
      · rename_i o H2 ho
        cases hk
        have s3 := aoc hr (X := [F]) (an1 hs)
        have s4 : Sat B w' (dH S.kt y.ρ H1 ++ (aoh S rs r (aam y.ρ l) ++ [F])) := s3.perm (ace _ _ _)
        have s5 := aiZ ho (ahb e1 ha).1 s4
        refine ⟨aam y.ρ l, ?_, hb1, hb2, ?_⟩
        · rw [he, aqK hl]
        · have s6 := s5.perm (ace (agc S ps o vs) (dH S.kt y.ρ H2) (aoh S rs r (aam y.ρ l) ++ [F]))
          have s7 : Sat B w' (agc S ps o vs ++ (aoh S rs r (aam y.ρ l) ++ [F])) := s6.imp fun _ => afn
          exact s7.perm (ace _ _ _)
      · cases hk
    · cases hk
  · cases hk
end
end
end Go.Proofs.YtlcelajkhklkbaaGreat
