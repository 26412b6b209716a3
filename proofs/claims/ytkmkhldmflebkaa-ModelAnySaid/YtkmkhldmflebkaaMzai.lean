/- Evaluation by itself, 10: code; calls by their bodies. No program occurs here. Evaluation by itself: contracts of functions, from their bodies. No program occurs here. -/
import Derived.Test.YtkmkhldmflebkaaMzah
import Derived.LoopNIn
import Derived.Test.YtkmkhldmflebkaaMzaf
set_option linter.all false
namespace Go.Proofs.Ytkmkhldmflebkaa
section
open Go Go.RowKit
abbrev Kt (K : KT) (α : Type) := aaM → Nat → KT.H K → Option α
section
variable (K : KT) (P : Program)
def apc (R : aaM) (H : KT.H K) : List ResultVar → Option (List V)
  | [] => some []
  | .tmp t :: l => match get R t with
    | some v => match apc R H l with
      | some vs => some (v :: vs)
      | none => none
    | none => none
  | .cell t T :: l => match get R t with
    | some u => match ldV K P H T u with
      | some v => match apc R H l with
        | some vs => some (v :: vs)
        | none => none
      | none => none
    | none => none
def apx : List V → V
  | [v] => v
  | l => .tup l
end
inductive Hint where
  | loop (items : List Itm) (fuel ex : Nat)
  | cut (items : List Itm) (fz : List Nat)
  | loopR (items : List Itm) (fuel ex : Nat)
  | cutR (items : List Itm) (fz : List Nat)
  | close
  | unroll (k : Nat)
  | spl (t : Nat) (vals : List Nat) (k : Nat)
def aeE : Code → Option Nat
  | .region id _ _ => some id
  | .seq a b => match aeE a with
    | some i => some i
    | none => aeE b
  | .block _ c => aeE c
  | .loop c => aeE c
  | .cond _ a b => match aeE a with
    | some i => some i
    | none => aeE b
  | .scope c => aeE c
  | _ => none
def atq : List Oper → List Nat
  | [] => []
  | o :: l => match o.dst with
    | some d => d :: atq l
    | none => atq l
def aeW : Code → List Nat
  | .region _ ops _ => atq ops.toList
  | .seq a b => aeW a ++ aeW b
  | .block _ c => aeW c
  | .loop c => aeW c
  | .cond _ a b => aeW a ++ aeW b
  | .scope c => aeW c
  | _ => []
def acI (l : List Nat) : aaM → aaM
  | [] => []
  | (t, v) :: R => match inN l t with
    | true => acI l R
    | false => (t, v) :: acI l R
def an0 (l : List Nat) : aaM → aaM
  | [] => []
  | (t, v) :: R => match inN l t with
    | true => (t, v) :: an0 l R
    | false => an0 l R
def afG {α : Type} (l : List Nat) : List (Nat × α) → List (Nat × α) × List (Nat × α)
  | [] => ([], [])
  | (t, v) :: R => match inN l t with
    | true => ((t, v) :: (afG l R).1, (afG l R).2)
    | false => ((afG l R).1, (t, v) :: (afG l R).2)
def lkH {T : Nat → Type} {M : Type} : List (Nat × Ch T M) → List (Nat × Ch T M)
  | [] => []
  | (t, v) :: R => match v with
    | .ro c xs => (t, .ro c xs) :: lkH R
    | .rr c xs => (t, .rr c xs) :: lkH R
    | .elt j i sz => (t, .elt j i sz) :: lkH R
    | _ => lkH R
theorem aoK {K : KT} {ρ : Env} {t : Nat} {v : Ch K.T K.M} {L : List aag} (h : (∃ c xs, v = .ro c xs) ∨ (∃ c xs, v = .rr c xs) ∨ ∃ j i sz, v = .elt j i sz) : Ent (aby K ρ t v :: L) (aby K ρ t v :: aby K ρ t v :: L) := by
  rcases h with ⟨c, xs, rfl⟩ | ⟨c, xs, rfl⟩ | ⟨j, i, sz, rfl⟩
  · rintro k ⟨k1, k2, a, e, ⟨h1, h2⟩, hL⟩
    exact aaE (fun _ h => ⟨h1, h⟩) (aa5 (fun _ => aaE fun _ h => ⟨h1, h⟩) (al8 k ⟨k1, k2, a, e, h2, hL⟩))
  · rintro k ⟨k1, k2, a, e, ⟨h1, ps, h2⟩, hL⟩
    exact aaE (fun _ h => ⟨h1, ps, h⟩) (aa5 (fun _ => aaE fun _ h => ⟨h1, ps, h⟩) (aha k ⟨k1, k2, a, e, h2, hL⟩))
  · rintro k ⟨k1, k2, a, e, hp, hL⟩
    exact ⟨fun _ _ => none, k, fun _ _ => .inl rfl, by funext x y; rfl, hp, ⟨k1, k2, a, e, hp, hL⟩⟩
theorem aps {K : KT} {ρ : Env} {X : List aag} : ∀ {Z : KT.H K}, Ent (dH K ρ Z ++ X) (dH K ρ (lkH Z) ++ (dH K ρ Z ++ X))
  | [] => Ent.refl
  | (t, v) :: Z => by
    have ih := aps (K := K) (ρ := ρ) (X := X) (Z := Z)
    have one : ((∃ c xs, v = .ro c xs) ∨ (∃ c xs, v = .rr c xs) ∨ ∃ j i sz, v = .elt j i sz) → Ent (dH K ρ ((t, v) :: Z) ++ X) (dH K ρ ((t, v) :: lkH Z) ++ (dH K ρ ((t, v) :: Z) ++ X)) := fun h k hk => by
      have h1 := aoK h k (show aba (aby K ρ t v :: (dH K ρ Z ++ X)) k from hk)
      have h2 := aa5 (fun _ => aa5 (fun q hq => ih q hq)) h1
      refine abh ?_ h2
      show (aby K ρ t v :: aby K ρ t v :: (dH K ρ (lkH Z) ++ (dH K ρ Z ++ X))).Perm (aby K ρ t v :: (dH K ρ (lkH Z) ++ (aby K ρ t v :: (dH K ρ Z ++ X))))
      exact List.Perm.cons _ (List.perm_middle (l₁ := dH K ρ (lkH Z))).symm
    have none_ : Ent (dH K ρ ((t, v) :: Z) ++ X) (dH K ρ (lkH Z) ++ (dH K ρ ((t, v) :: Z) ++ X)) := fun k hk => by
      have h2 := aa5 (fun q hq => ih q hq) (show aba (aby K ρ t v :: (dH K ρ Z ++ X)) k from hk)
      exact abh (List.perm_middle (l₁ := dH K ρ (lkH Z))).symm h2
    unfold lkH
    split
    · exact one (.inl ⟨_, _, rfl⟩)
    · exact one (.inr (.inl ⟨_, _, rfl⟩))
    · exact one (.inr (.inr ⟨_, _, _, rfl⟩))
    · exact none_
theorem akK {K : KT} {nt B : Nat} {W : World} {ρ : Env} {L : abN} {Y Z H : KT.H K} {F : aag} {a : Act} {w : World} (s : Sta nt B W L (dS K ρ (Y ++ Z) H F) a w) : Sta nt B W L (dS K ρ (Y ++ Z) (H ++ lkH Y) F) a w := ⟨s.regs, s.below, s.lo, by
  have s1 : Sat B w (dH K ρ H ++ (dH K ρ (Y ++ Z) ++ [F])) := s.sat
  rw [ahK, List.append_assoc] at s1
  have s2 : Sat B w (dH K ρ Y ++ (dH K ρ H ++ (dH K ρ Z ++ [F]))) := s1.perm (ab2 _ _ _)
  have s3 := s2.imp (aps (K := K) (ρ := ρ))
  refine s3.perm ?_
  show (dH K ρ (lkH Y) ++ (dH K ρ Y ++ (dH K ρ H ++ (dH K ρ Z ++ [F])))).Perm (dH K ρ (H ++ lkH Y) ++ (dH K ρ (Y ++ Z) ++ [F]))
  rw [ahK, ahK]; exact aaq fun f g h1 h2 h3 => by simp only [h1, h2, h3]; omega⟩
def lpF {σ β : Type} (F : (σ → Option β) → σ → Option β) : Nat → σ → Option β
  | 0, _ => none
  | k + 1, x => F (lpF F k) x
def itF (S : Shp) (n : Nat) (Z : S.kt.H) (items : List Itm) {β : Type} (k : ajQ S items → Option β) : Kt S.kt β := fun R _ H => match itA S n Z items R H with
  | some (x, _) => k x
  | none => none
section
variable (S : Shp) (P : Program) (call : agt S.kt) (hs : List (Nat × Hint)) (nt : Nat)
def apw {α : Type} (body : aaM → Nat → S.kt.H → Kt S.kt α → Option α) : Nat → Kt S.kt α
  | 0 => fun _ _ _ => none
  | k + 1 => fun R n H => body R n H (apw body k)
def aoA {α : Type} (z : Int) (f : Nat → Option α) : List Nat → Option α
  | [] => none
  | m :: l => if z = ((m : Nat) : Int) then f m else aoA z f l
def aun (R : aaM) : Itm → Itm
  | .ob id c => match Nat.ble 1000000 id with
    | true => match get R (Nat.sub id 1000000) with
      | some (.ptr j _) => .ob j c
      | some (.ifc _ (.ptr j _)) => .ob j c
      | _ => .ob id c
    | false => .ob id c
  | it => it
def aqi (R : aaM) : List Itm → List Itm
  | [] => []
  | it :: l => aun R it :: aqi R l
def as2 (R : aaM) : Hint → Hint
  | .loop items fuel ex => .loop (aqi R items) fuel ex
  | .loopR items fuel ex => .loopR (aqi R items) fuel ex
  | h => h
def aqX (R : aaM) : List Itm → Bool
  | [] => true
  | .cx id _ :: l => match get R 0 with
    | some (.ptr j _) => Nat.beq j id && aqX R l
    | _ => false
  | _ :: l => aqX R l
def aur (n : Nat) (Z : S.kt.H) (R : aaM) (H : S.kt.H) : Hint → Bool
  | .loop items _ _ => aqX R items && (itA S n Z items R H).isSome
  | .loopR items _ _ => aqX R items && (itA S n Z items R H).isSome
  | .cut items fz => aqX R items && (match itA S n Z items R H with
    | some (_, Hr) => Hr.all fun p => match p.2 with
      | .cells .. => fz.any (Nat.beq p.1)
      | .row .. => fz.any (Nat.beq p.1)
      | _ => true
    | none => false)
  | .cutR items fz => aqX R items && (match itA S n Z items R H with
    | some (_, Hr) => Hr.all fun p => match p.2 with
      | .cells .. => fz.any (Nat.beq p.1)
      | .row .. => fz.any (Nat.beq p.1)
      | _ => true
    | none => false)
  | _ => true
def atx : List (Nat × Hint) → Nat → List Hint
  | [], _ => []
  | p :: l, id => match Nat.beq p.1 id with
    | true => p.2 :: atx l id
    | false => atx l id
def atH (t : Hint → Bool) : List Hint → Option Hint
  | [] => none
  | h :: l => match t h with
    | true => some h
    | false => atH t l
def ar1 (hs : List (Nat × Hint)) (n : Nat) (Z : S.kt.H) (R : aaM) (H : S.kt.H) (id : Nat) : Option Hint := match atx hs id with
  | [] => none
  | [h] => some h
  | l => atH (aur S n Z R H) l
def as1 (hs : List (Nat × Hint)) (n : Nat) (Z : S.kt.H) (R : aaM) (H : S.kt.H) (id : Nat) : Option Hint := match ar1 S hs n Z R H id with
  | some h => some (as2 R h)
  | none => none
def aqN (hs : List (Nat × Hint)) (id : Nat) (H : S.kt.H) : S.kt.H := match get hs id with
  | some .close => asB S.kt H
  | _ => H
noncomputable def ev : Code → (α : Type) → (C : aaM) → (Z : S.kt.H) → aaM → Nat → S.kt.H → Kt S.kt α → (Nat → Kt S.kt α) → Kt S.kt α → Option α
  | .skip, _, _, _, R, n, H, kn, _, _ => kn R n H
  | .region id ops d, _, C, Z, R, n, H, kn, _, _ => match d with
    | false => rtE S.kt P call ops nt C Z ops.toList R n (aqN S hs id H) kn
    | true => amk ops.toList 0 fun L => match okM ops L with
      | true => atE S.kt P call ops nt C Z L ops.size 0 [] R n (aqN S hs id H) kn
      | false => none
  | .seq x y, α, C, Z, R, n, H, kn, ke, kr => match (aeE y).bind (ar1 S hs n Z (R ++ C) H) with
    | some (.cut items fz) => match Nat.ble (akI (acI (aeW x) R ++ C)) n && Nat.ble (ac2 ((afG fz H).1 ++ Z)) n with
      | true => (ev x (ajQ S items) (acI (aeW x) R ++ C) ((afG fz H).1 ++ Z) (an0 (aeW x) R) n ((afG fz H).2 ++ lkH (afG fz H).1) (itF S n ((afG fz H).1 ++ Z) items some) (fun _ _ _ _ => none) (fun _ _ _ => none)).bind fun z =>
        ev y α C Z ((itB S items z n).1 ++ acI (aeW x) R) (itB S items z n).2.2 ((itB S items z n).2.1 ++ (afG fz H).1) kn ke kr
      | false => none
    | some (.cutR items fz) => match Nat.ble (akI (acI (aeW x) R ++ C)) n && Nat.ble (ac2 ((afG fz H).1 ++ Z)) n with
      | true => (ev x (ajQ S items ⊕ α) (acI (aeW x) R ++ C) ((afG fz H).1 ++ Z) (an0 (aeW x) R) n ((afG fz H).2 ++ lkH (afG fz H).1) (itF S n ((afG fz H).1 ++ Z) items (fun z => some (.inl z))) (fun j R' n' H' => (ke j (R' ++ acI (aeW x) R) n' (H' ++ (afG fz H).1)).map .inr) (fun R' n' H' => (kr (R' ++ acI (aeW x) R) n' (H' ++ (afG fz H).1)).map .inr)).bind fun z => match z with
        | .inl z => ev y α C Z ((itB S items z n).1 ++ acI (aeW x) R) (itB S items z n).2.2 ((itB S items z n).2.1 ++ (afG fz H).1) kn ke kr
        | .inr o => some o
      | false => none
    | _ => ev x α C Z R n H (fun R n H => ev y α C Z R n H kn ke kr) ke kr
  | .cond c x y, α, C, Z, R, n, H, kn, ke, kr => match evO (R ++ C) c with
    | some (.t b) => match b with
      | true => ev x α C Z R n H kn ke kr
      | false => ev y α C Z R n H kn ke kr
    | some (.p Q d) => @ite _ Q d (ev x α C Z R n H kn ke kr) (ev y α C Z R n H kn ke kr)
    | some (.b b) => if b = true then ev x α C Z R n H kn ke kr else ev y α C Z R n H kn ke kr
    | _ => none
  | .block id c, α, C, Z, R, n, H, kn, ke, kr => ev c α C Z R n H kn (fun j => match Nat.beq j id with | true => kn | false => ke j) kr
  | .loop c, α, C, Z, R, n, H, _, ke, kr => match (aeE c).bind (as1 S hs n Z (R ++ C) H) with
    | some (.loopR items fuel ex) => match itA S n Z items R H with
      | some (x0, Hr) => match Nat.ble (akI (acI (aeW c) R ++ C)) n && Nat.ble (ac2 (Hr ++ Z)) n with
        | true => (lpF (fun self x => ev c (ajQ S items ⊕ α) (acI (aeW c) R ++ C) (Hr ++ Z) (itB S items x n).1 (itB S items x n).2.2 ((itB S items x n).2.1 ++ lkH Hr) (itF S n (Hr ++ Z) items self)
            (fun j => match Nat.beq j ex with | true => itF S n (Hr ++ Z) items (fun z => some (.inl z)) | false => fun R' n' H' => (ke j (R' ++ acI (aeW c) R) n' (H' ++ Hr)).map .inr) (fun R' n' H' => (kr (R' ++ acI (aeW c) R) n' (H' ++ Hr)).map .inr)) fuel x0).bind fun z => match z with
          | .inl z => ke ex ((itB S items z n).1 ++ acI (aeW c) R) (itB S items z n).2.2 ((itB S items z n).2.1 ++ Hr)
          | .inr o => some o
        | false => none
      | none => none
    | some (.loop items fuel ex) => match itA S n Z items R H with
      | some (x0, Hr) => match Nat.ble (akI (acI (aeW c) R ++ C)) n && Nat.ble (ac2 (Hr ++ Z)) n with
        | true => (lpF (fun self x => ev c (ajQ S items) (acI (aeW c) R ++ C) (Hr ++ Z) (itB S items x n).1 (itB S items x n).2.2 ((itB S items x n).2.1 ++ lkH Hr) (itF S n (Hr ++ Z) items self)
            (fun j => match Nat.beq j ex with | true => itF S n (Hr ++ Z) items some | false => fun _ _ _ => none) (fun _ _ _ => none)) fuel x0).bind fun z =>
          ke ex ((itB S items z n).1 ++ acI (aeW c) R) (itB S items z n).2.2 ((itB S items z n).2.1 ++ Hr)
        | false => none
      | none => none
    | some (.unroll k) => apw S (fun R n H kn => ev c α C Z R n H kn ke kr) k R n H
    | some (.spl t vals k) => match get R t with
      | some (.i kk z) => aoA z (fun m => apw S (fun R n H kn => ev c α C Z R n H kn ke kr) k ((t, .l kk ((m : Nat) : Int)) :: del R t) n H) vals
      | _ => none
    | _ => none
  | .exit id, _, _, _, R, n, H, _, ke, _ => ke id R n H
  | .ret, _, _, _, R, n, H, _, _, kr => kr R n H
  | _, _, _, _, _, _, _, _, _, _ => none
end
theorem ak9 {α : Type} {z : Int} {f : Nat → Option α} {out : α} : ∀ {l : List Nat}, aoA z f l = some out → ∃ m : Nat, z = ((m : Nat) : Int) ∧ f m = some out
  | [], h => by cases h
  | m :: l, h => by
    unfold aoA at h
    split at h
    · rename_i e; exact ⟨m, e, h⟩
    · exact ak9 h
section
variable {S : Shp} {P : Program} {call : agt S.kt} {hs : List (Nat × Hint)} {nt B : Nat} {W : World} {F : aag}
theorem anX {ρ : Env} {R C : aaM} {t : Nat} {kk : IntKind} {z : Int} {m : Nat} {a : Act} (hg : get R t = some (.i kk z)) (hz : z = ((m : Nat) : Int)) (r : Regs nt a (dR ρ (R ++ C))) : Regs nt a (dR ρ (((t, .l kk ((m : Nat) : Int)) :: del R t) ++ C)) := by
  refine ⟨r.size, r.defers, fun p hp => ?_⟩
  obtain ⟨q, hq, rfl⟩ := List.mem_map.1 hp
  rcases List.mem_append.1 hq with h1 | h1
  · rcases List.mem_cons.1 h1 with e1 | e1
    · subst e1
      have := r.has _ (afQ (ρ := ρ) (aiK hg))
      rw [hz] at this
      exact this
    · exact r.has _ (List.mem_map.2 ⟨q, List.mem_append_left _ (aeF e1).1, rfl⟩)
  · exact r.has _ (List.mem_map.2 ⟨q, List.mem_append_right _ h1, rfl⟩)
theorem aix {ρ : Env} {R C : aaM} {a : Act} (h1 : ∀ p ∈ dR ρ R, a.tmps[p.1]? = some p.2) (h2 : Regs nt a (dR ρ C)) : Regs nt a (dR ρ (R ++ C)) := ⟨h2.size, h2.defers, fun p hp => by
  unfold dR at hp; rw [List.map_append] at hp
  exact (List.mem_append.1 hp).elim (h1 p) (h2.has p)⟩
theorem apd {ρ : Env} {R C : aaM} {a : Act} (h : Regs nt a (dR ρ (R ++ C))) : Regs nt a (dR ρ C) := h.sub fun p hp => by unfold dR; rw [List.map_append]; exact List.mem_append_right _ hp
theorem ajk {ρ : Env} {R C : aaM} {a : Act} (h : Regs nt a (dR ρ (R ++ C))) : Regs nt a (dR ρ R) := h.sub fun p hp => by unfold dR; rw [List.map_append]; exact List.mem_append_left _ hp
theorem ahz {l : List Nat} {p : Nat × V} : ∀ {R : aaM}, p ∈ acI l R → p ∈ R
  | [], h => by cases h
  | (t, v) :: R, h => by
    unfold acI at h
    split at h
    · exact List.mem_cons_of_mem _ (ahz h)
    · exact (List.mem_cons.1 h).elim (fun e => by subst e; exact List.mem_cons_self ..) (fun h => List.mem_cons_of_mem _ (ahz h))
theorem aip {l : List Nat} {p : Nat × V} : ∀ {R : aaM}, p ∈ an0 l R → p ∈ R
  | [], h => by cases h
  | (t, v) :: R, h => by
    unfold an0 at h
    split at h
    · exact (List.mem_cons.1 h).elim (fun e => by subst e; exact List.mem_cons_self ..) (fun h => List.mem_cons_of_mem _ (aip h))
    · exact List.mem_cons_of_mem _ (aip h)
theorem aho {ρ : Env} {l : List Nat} {R C : aaM} {a : Act} (h : Regs nt a (dR ρ (R ++ C))) : Regs nt a (dR ρ (acI l R ++ C)) := aix (fun p hp => by
  obtain ⟨q, hq, rfl⟩ := List.mem_map.1 hp
  exact (ajk h).has _ (List.mem_map.2 ⟨q, ahz hq, rfl⟩)) (apd h)
theorem akT {ρ : Env} {l : List Nat} {R C : aaM} {a : Act} (h : Regs nt a (dR ρ (R ++ C))) : Regs nt a (dR ρ (an0 l R ++ (acI l R ++ C))) := aix (fun p hp => by
  obtain ⟨q, hq, rfl⟩ := List.mem_map.1 hp
  exact (ajk h).has _ (List.mem_map.2 ⟨q, aip hq, rfl⟩)) (aho h)
theorem af3 {ρ : Env} {l : List Nat} : ∀ {H : S.kt.H}, (dH S.kt ρ H).Perm (dH S.kt ρ (afG l H).2 ++ dH S.kt ρ (afG l H).1)
  | [] => .refl _
  | (t, v) :: H => by
    unfold afG
    split
    · exact ((af3 (H := H)).cons _).trans (List.perm_middle).symm
    · exact (af3 (H := H)).cons _
theorem aiJ {n : Nat} {ρ0 ρ1 : Env} {items : List Itm} {x : ajQ S items} {C : aaM} {Z : S.kt.H} {a : Act} {w : World} (h0 : aat n ρ0 ρ1) (ok : ahT n items = true) (hC : akI C ≤ n) (hZ : ac2 Z ≤ n) (s : Sat B w (IS S ρ0 a items x ++ tl S.kt Z F ρ1)) (r : Regs nt a (dR ρ1 C)) (hb : Below B W w) (hl : B ≤ w.heap.size) :
    ∃ ρ', aat n ρ0 ρ' ∧ n ≤ (itB S items x n).2.2 ∧ Sta nt B W (dR ρ' ((itB S items x n).1 ++ C)) (dS S.kt ρ' Z (itB S items x n).2.1 F) a w := by
  obtain ⟨ρ2, a2, n2, r2, s2⟩ := agW (l := items) (n := n) (X := tl S.kt Z F) ok (Nat.le_refl _) h0 (fun ρ ρ' ha => abB hZ ha) s
  exact ⟨ρ2, h0.trans a2 (Nat.le_refl _), n2, ⟨aix r2 (by rw [← aa1 a2 C hC]; exact r), hb, hl, s2⟩⟩
theorem agI {n : Nat} {ρ0 ρ1 : Env} {items : List Itm} {x : ajQ S items} {C R : aaM} {Z H H' : S.kt.H} {a : Act} {w : World} (h : itA S n Z items R H = some (x, H')) (h0 : aat n ρ0 ρ1) (hC : akI C ≤ n) (hZ : ac2 Z ≤ n) (s : Sta nt B W (dR ρ1 (R ++ C)) (dS S.kt ρ1 Z H F) a w) :
    ∃ ρ', aat n ρ0 ρ' ∧ n ≤ (itB S items x n).2.2 ∧ Sta nt B W (dR ρ' ((itB S items x n).1 ++ C)) (dS S.kt ρ' Z (itB S items x n).2.1 F) a w := by
  obtain ⟨ok, s1⟩ := amL (nt := nt) (a := a) h0 h (ajk s.regs) (X := [F]) s.sat
  have s2 : Sat B w (dH S.kt ρ1 H' ++ (IS S ρ0 a items x ++ (dH S.kt ρ1 Z ++ [F]))) := s1.perm (ab2 _ _ _)
  exact aiJ h0 ok hC hZ (s2.imp fun _ => ac3) (apd s.regs) s.below s.lo
theorem ahV {ρ : Env} {R R' C : aaM} {Z H H' : S.kt.H} {a : Act} {w : World} (s : Sta nt B W (dR ρ (R' ++ (R ++ C))) (dS S.kt ρ (H ++ Z) H' F) a w) : Sta nt B W (dR ρ ((R' ++ R) ++ C)) (dS S.kt ρ Z (H' ++ H) F) a w := ⟨by rw [List.append_assoc]; exact s.regs, s.below, s.lo, s.sat.perm (by
  show (dH S.kt ρ H' ++ (dH S.kt ρ (H ++ Z) ++ [F])).Perm (dH S.kt ρ (H' ++ H) ++ (dH S.kt ρ Z ++ [F]))
  rw [dHa, dHa]; exact aaq fun f g h1 h2 h3 => by simp only [h1, h2, h3]; omega)⟩
theorem aiH {α β : Type} {o : Option β} {z : α ⊕ β} (h : o.map Sum.inr = some z) : ∃ y, o = some y ∧ z = .inr y := by
  cases o with
  | none => cases h
  | some y => exact ⟨y, rfl, (Option.some.inj h).symm⟩
theorem afo {n : Nat} {Z : S.kt.H} {items : List Itm} {β : Type} {k : ajQ S items → Option β} {R : aaM} {m : Nat} {H : S.kt.H} {z : β} (h : itF S n Z items k R m H = some z) : ∃ x H', itA S n Z items R H = some (x, H') ∧ k x = some z := by
  unfold itF at h
  split at h
  · rename_i x H' hx; exact ⟨x, H', hx, h⟩
  · cases h
theorem ael {α β : Type} {x : Option α} {f : α → Option β} {o : β} (h : x.bind f = some o) : ∃ z, x = some z ∧ f z = some o := by
  cases x with
  | none => cases h
  | some z => exact ⟨z, rfl, h⟩
theorem ank {ρ : Env} {w : World} {X : List aag} {id : Nat} {H : S.kt.H} (s : Sat B w (dH S.kt ρ H ++ X)) : Sat B w (dH S.kt ρ (aqN S hs id H) ++ X) := by
  unfold aqN
  split
  · exact akr s
  · exact s
theorem aeV (hm : P.follows .mixedOrders = true) (hc : ags S.kt P B W call) : ∀ (c : Code) {α : Type} {out : α} {C : aaM} {Z : S.kt.H} {R : aaM} {n : Nat} {H : S.kt.H} {kn : Kt S.kt α} {ke : Nat → Kt S.kt α} {kr : Kt S.kt α} {Q : Exit → Act → World → Prop} {ρ : Env},
    ev S P call hs nt c α C Z R n H kn ke kr = some out → KOk S.kt Q nt B W C Z F out .normal ρ n kn → (∀ j, KOk S.kt Q nt B W C Z F out (.exit j) ρ n (ke j)) → KOk S.kt Q nt B W C Z F out .ret ρ n kr →
    CT none P Q nt B W c (dR ρ (R ++ C)) (dS S.kt ρ Z H F)
  | .skip, α, out, C, Z, R, n, H, kn, ke, kr, Q, ρ, h, hn, _, _ => aqJ (hn _ _ _ _ (aat.refl _ _) (Nat.le_refl _) h)
  | .region id ops d, α, out, C, Z, R, n, H, kn, ke, kr, Q, ρ, h, hn, _, _ => by
    cases d with
    | false =>
      have := ane (id := id) (al1 (r := none) (ops := ops) (Q := Q) hc (show rtE S.kt P call ops nt C Z ops.toList R n (aqN S hs id H) kn = some out from h) hn)
      exact fun a w s => this a w ⟨s.regs, s.below, s.lo, ank s.sat⟩
    | true =>
      intro a w s
      have h1 : (Code.region id ops true).wpIn (rf none) 0 P (NP Q) a w := by
        refine wpIn_region_any hm ?_
        have s0 : Sta nt B W (dR ρ (R ++ C)) (dS S.kt ρ Z (aqN S hs id H) F) a w := ⟨s.regs, s.below, s.lo, ank s.sat⟩
        have s' := (aoS s0.cls).st s0.regs
        have h0 : (amk ops.toList 0 fun L => match okM ops L with
          | true => atE S.kt P call ops nt C Z L ops.size 0 [] R n (aqN S hs id H) kn
          | false => none) = some out := h
        rw [akX] at h0
        split at h0
        · rename_i hok
          exact alm _ _ _ _ (ago rfl hok (Ob := fun _ _ _ => True) hc RelM.none aks (fun _ h => by cases h) h0 hn (fun _ _ => trivial) (fun _ h => by cases h) (fun _ _ _ _ => trivial) _ _ s')
        · cases h0
      exact wpIn_mono h1 fun e a' w' hq => by cases e <;> first | exact hq | exact hq.elim
  | .seq x y, α, out, C, Z, R, n, H, kn, ke, kr, Q, ρ, h, hn, he, hr => by
    unfold ev at h
    split at h
    · rename_i items fz _
      split at h
      · rename_i hB
        simp only [Bool.and_eq_true] at hB
        have hC := Nat.le_of_ble_eq_true hB.1
        have hZ := Nat.le_of_ble_eq_true hB.2
        obtain ⟨z, hz, h2⟩ := ael h
        refine anc fun a w s => ?_
        have s' : Sta nt B W (dR ρ (an0 (aeW x) R ++ (acI (aeW x) R ++ C))) (dS S.kt ρ ((afG fz H).1 ++ Z) (afG fz H).2 F) a w := ⟨akT s.regs, s.below, s.lo, s.sat.perm (by
          show (dH S.kt ρ H ++ (dH S.kt ρ Z ++ [F])).Perm (dH S.kt ρ (afG fz H).2 ++ (dH S.kt ρ ((afG fz H).1 ++ Z) ++ [F]))
          rw [dHa]
          exact ((af3 (l := fz)).append_right _).trans (aaq fun f g h1 h2 h3 => by simp only [h1, h2, h3]; omega))⟩
        refine aeV hm hc x (out := z) (Q := Exit.then (y.wpIn (rf none) 0 P Q) Q) hz ?_ ?_ ?_ a w (akK s')
        · intro ρ' R' n' H' ha hle hk a' w' s2
          obtain ⟨x', H'', hA, hx⟩ := afo hk
          obtain rfl : x' = z := Option.some.inj hx
          obtain ⟨ρ2, a2, n2, s3⟩ := agI hA ha hC hZ s2
          have s4 : Sta nt B W (dR ρ2 (((itB S items x' n).1 ++ acI (aeW x) R) ++ C)) (dS S.kt ρ2 Z ((itB S items x' n).2.1 ++ (afG fz H).1) F) a' w' := ⟨by rw [List.append_assoc]; exact s3.regs, s3.below, s3.lo, s3.sat.perm (by
            show (dH S.kt ρ2 (itB S items x' n).2.1 ++ (dH S.kt ρ2 ((afG fz H).1 ++ Z) ++ [F])).Perm (dH S.kt ρ2 ((itB S items x' n).2.1 ++ (afG fz H).1) ++ (dH S.kt ρ2 Z ++ [F]))
            rw [dHa, dHa]; exact aaq fun f g h1 h2 h3 => by simp only [h1, h2, h3]; omega)⟩
          exact aeV hm hc y h2 (hn.from a2 n2) (fun j => (he j).from a2 n2) (hr.from a2 n2) a' w' s4
        · exact fun j ρ' R' n' H' ha hle hk => by cases hk
        · exact fun ρ' R' n' H' ha hle hk => by cases hk
      · cases h
    · rename_i items fz _
      split at h
      · rename_i hB
        simp only [Bool.and_eq_true] at hB
        have hC := Nat.le_of_ble_eq_true hB.1
        have hZ := Nat.le_of_ble_eq_true hB.2
        obtain ⟨z, hz, h2⟩ := ael h
        refine anc fun a w s => ?_
        have s' : Sta nt B W (dR ρ (an0 (aeW x) R ++ (acI (aeW x) R ++ C))) (dS S.kt ρ ((afG fz H).1 ++ Z) (afG fz H).2 F) a w := ⟨akT s.regs, s.below, s.lo, s.sat.perm (by
          show (dH S.kt ρ H ++ (dH S.kt ρ Z ++ [F])).Perm (dH S.kt ρ (afG fz H).2 ++ (dH S.kt ρ ((afG fz H).1 ++ Z) ++ [F]))
          rw [dHa]
          exact ((af3 (l := fz)).append_right _).trans (aaq fun f g h1 h2 h3 => by simp only [h1, h2, h3]; omega))⟩
        refine aeV hm hc x (out := z) (Q := Exit.then (y.wpIn (rf none) 0 P Q) Q) hz ?_ ?_ ?_ a w (akK s')
        · intro ρ' R' n' H' ha hle hk a' w' s2
          obtain ⟨x', H'', hA, hx⟩ := afo hk
          obtain rfl : .inl x' = z := Option.some.inj hx
          obtain ⟨ρ2, a2, n2, s3⟩ := agI hA ha hC hZ s2
          exact aeV hm hc y h2 (hn.from a2 n2) (fun j => (he j).from a2 n2) (hr.from a2 n2) a' w' (ahV s3)
        · intro j ρ' R' n' H' ha hle hk a' w' s2
          obtain ⟨o, ho, rfl⟩ := aiH hk
          obtain rfl : o = out := Option.some.inj h2
          exact agX (he j ρ' _ n' _ ha hle ho) a' w' (ahV s2)
        · intro ρ' R' n' H' ha hle hk a' w' s2
          obtain ⟨o, ho, rfl⟩ := aiH hk
          obtain rfl : o = out := Option.some.inj h2
          exact ahI (hr ρ' _ n' _ ha hle ho) a' w' (ahV s2)
      · cases h
    · refine anc (aeV hm hc x (Q := Exit.then (y.wpIn (rf none) 0 P Q) Q) h ?_ ?_ ?_)
      · intro ρ' R' n' H' ha hle hk
        exact aqG (aeV hm hc y hk (hn.from ha hle) (fun j => (he j).from ha hle) (hr.from ha hle))
      · exact fun j ρ' R' n' H' ha hle hk => agX (he j ρ' R' n' H' ha hle hk)
      · exact fun ρ' R' n' H' ha hle hk => ahI (hr ρ' R' n' H' ha hle hk)
  | .cond c x y, α, out, C, Z, R, n, H, kn, ke, kr, Q, ρ, h, hn, he, hr => by
    unfold ev at h
    split at h
    · rename_i b hb
      have hb' := aaA (ρ := ρ) hb
      cases b with
      | true => exact aqI hb' (aeV hm hc x h hn he hr)
      | false => exact aoL hb' (aeV hm hc y h hn he hr)
    · rename_i q d hb
      have hb' := aaA (ρ := ρ) hb
      refine @atr _ _ _ _ _ _ _ _ _ _ _ q d hb' (fun hp => ?_) (fun hp => ?_)
      · rw [if_pos hp] at h; exact aeV hm hc x h hn he hr
      · rw [if_neg hp] at h; exact aeV hm hc y h hn he hr
    · rename_i b hb
      have hb' := aaA (ρ := ρ) hb
      refine asd hb' (fun hp => ?_) (fun hp => ?_)
      · rw [if_pos hp] at h; exact aeV hm hc x h hn he hr
      · rw [if_neg (by rw [hp]; exact Bool.false_ne_true)] at h; exact aeV hm hc y h hn he hr
    · cases h
  | .block id c, α, out, C, Z, R, n, H, kn, ke, kr, Q, ρ, h, hn, he, hr => by
    refine aoM (aeV hm hc c (Q := Exit.inBlock id Q) (show ev S P call hs nt c α C Z R n H kn (fun j => match Nat.beq j id with | true => kn | false => ke j) kr = some out from h) ?_ ?_ ?_)
    · exact fun ρ' R' n' H' ha hle hk => aoH (hn ρ' R' n' H' ha hle hk)
    · intro j ρ' R' n' H' ha hle hk
      have hk' : (match Nat.beq j id with | true => kn | false => ke j) R' n' H' = some out := hk
      cases e : Nat.beq j id with
      | true =>
        rw [e] at hk'
        obtain rfl := Nat.eq_of_beq_eq_true e
        exact aiQ (hn ρ' R' n' H' ha hle hk')
      | false =>
        rw [e] at hk'
        exact aiP (by rw [beq_eq_false_iff_ne]; intro hj; subst hj; have := Nat.beq_refl j; rw [e] at this; cases this) (he j ρ' R' n' H' ha hle hk')
    · exact fun ρ' R' n' H' ha hle hk => ajH (hr ρ' R' n' H' ha hle hk)
  | .exit id, α, out, C, Z, R, n, H, kn, ke, kr, Q, ρ, h, _, he, _ => aqK (he id _ _ _ _ (aat.refl _ _) (Nat.le_refl _) h)
  | .ret, α, out, C, Z, R, n, H, kn, ke, kr, Q, ρ, h, _, _, hr => asc (hr _ _ _ _ (aat.refl _ _) (Nat.le_refl _) h)
  | .loop c, α, out, C, Z, R, n, H, kn, ke, kr, Q, ρ, h, hn, he, hr => by
    unfold ev at h
    split at h
    · rename_i items fuel ex _
      split at h
      · rename_i x0 Hr hx0
        split at h
        · rename_i hB
          simp only [Bool.and_eq_true] at hB
          have hC := Nat.le_of_ble_eq_true hB.1
          have hZ := Nat.le_of_ble_eq_true hB.2
          obtain ⟨z, hz, h2⟩ := ael h
          intro a w s
          obtain ⟨ok, s1⟩ := amL (nt := nt) (a := a) (aat.refl n ρ) hx0 (ajk s.regs) (X := [F]) s.sat
          have s1' : Sat B w (IS S ρ a items x0 ++ tl S.kt (Hr ++ Z) F ρ) := by unfold tl; rw [dHa, List.append_assoc]; exact s1
          have J0 := aiJ (nt := nt) (aat.refl n ρ) ok hC hZ s1' (aho (l := aeW c) s.regs) s.below s.lo
          refine ae0 (fun k a w => ∃ x, lpF _ k x = some z ∧ ∃ ρ', aat n ρ ρ' ∧ n ≤ (itB S items x n).2.2 ∧ Sta nt B W (dR ρ' ((itB S items x n).1 ++ (acI (aeW c) R ++ C))) (dS S.kt ρ' (Hr ++ Z) (itB S items x n).2.1 F) a w) fuel ⟨x0, hz, J0⟩ ?_
          rintro m a' w' ⟨x, hx, ρ1, a1, n1, s2⟩
          cases m with
          | zero => cases hx
          | succ k =>
            refine aeV hm hc c (out := z) (Q := Exit.then (fun a' w' => ∃ m', m' < k + 1 ∧ ∃ x, lpF _ m' x = some z ∧ ∃ ρ', aat n ρ ρ' ∧ n ≤ (itB S items x n).2.2 ∧ Sta nt B W (dR ρ' ((itB S items x n).1 ++ (acI (aeW c) R ++ C))) (dS S.kt ρ' (Hr ++ Z) (itB S items x n).2.1 F) a' w') Q) hx ?_ ?_ ?_ a' w' (akK s2)
            · intro ρ2 R' n' H' ha hle hk a2 w2 s3
              obtain ⟨x', H'', hA, hx'⟩ := afo hk
              exact ⟨k, Nat.lt_succ_self k, x', hx', agI hA (a1.trans ha n1) hC hZ s3⟩
            · intro j ρ2 R' n' H' ha hle hk a2 w2 s3
              have hk' : (match Nat.beq j ex with | true => itF S n (Hr ++ Z) items (fun z => some (Sum.inl z)) | false => fun R' n' H' => (ke j (R' ++ acI (aeW c) R) n' (H' ++ Hr)).map (Sum.inr : α → ajQ S items ⊕ α)) R' n' H' = some z := hk
              cases e : Nat.beq j ex with
              | true =>
                rw [e] at hk'
                obtain rfl := Nat.eq_of_beq_eq_true e
                obtain ⟨x', H'', hA, hx'⟩ := afo hk'
                obtain rfl : .inl x' = z := Option.some.inj hx'
                obtain ⟨ρ3, a3, n3, s4⟩ := agI hA (a1.trans ha n1) hC hZ s3
                exact he j ρ3 _ _ _ a3 n3 h2 a2 w2 (ahV s4)
              | false =>
                rw [e] at hk'
                obtain ⟨o, ho, rfl⟩ := aiH hk'
                obtain rfl : o = out := Option.some.inj h2
                exact he j ρ2 _ n' _ (a1.trans ha n1) (Nat.le_trans n1 hle) ho a2 w2 (ahV s3)
            · intro ρ2 R' n' H' ha hle hk a2 w2 s3
              obtain ⟨o, ho, rfl⟩ := aiH hk
              obtain rfl : o = out := Option.some.inj h2
              exact hr ρ2 _ n' _ (a1.trans ha n1) (Nat.le_trans n1 hle) ho a2 w2 (ahV s3)
        · cases h
      · cases h
    · rename_i items fuel ex _
      split at h
      · rename_i x0 Hr hx0
        split at h
        · rename_i hB
          simp only [Bool.and_eq_true] at hB
          have hC := Nat.le_of_ble_eq_true hB.1
          have hZ := Nat.le_of_ble_eq_true hB.2
          obtain ⟨z, hz, h2⟩ := ael h
          intro a w s
          obtain ⟨ok, s1⟩ := amL (nt := nt) (a := a) (aat.refl n ρ) hx0 (ajk s.regs) (X := [F]) s.sat
          have s1' : Sat B w (IS S ρ a items x0 ++ tl S.kt (Hr ++ Z) F ρ) := by unfold tl; rw [dHa, List.append_assoc]; exact s1
          have J0 := aiJ (nt := nt) (aat.refl n ρ) ok hC hZ s1' (aho (l := aeW c) s.regs) s.below s.lo
          refine ae0 (fun k a w => ∃ x, lpF _ k x = some z ∧ ∃ ρ', aat n ρ ρ' ∧ n ≤ (itB S items x n).2.2 ∧ Sta nt B W (dR ρ' ((itB S items x n).1 ++ (acI (aeW c) R ++ C))) (dS S.kt ρ' (Hr ++ Z) (itB S items x n).2.1 F) a w) fuel ⟨x0, hz, J0⟩ ?_
          rintro m a' w' ⟨x, hx, ρ1, a1, n1, s2⟩
          cases m with
          | zero => cases hx
          | succ k =>
            refine aeV hm hc c (out := z) (Q := Exit.then (fun a' w' => ∃ m', m' < k + 1 ∧ ∃ x, lpF _ m' x = some z ∧ ∃ ρ', aat n ρ ρ' ∧ n ≤ (itB S items x n).2.2 ∧ Sta nt B W (dR ρ' ((itB S items x n).1 ++ (acI (aeW c) R ++ C))) (dS S.kt ρ' (Hr ++ Z) (itB S items x n).2.1 F) a' w') Q) hx ?_ ?_ ?_ a' w' (akK s2)
            · intro ρ2 R' n' H' ha hle hk a2 w2 s3
              obtain ⟨x', H'', hA, hx'⟩ := afo hk
              exact ⟨k, Nat.lt_succ_self k, x', hx', agI hA (a1.trans ha n1) hC hZ s3⟩
            · intro j ρ2 R' n' H' ha hle hk a2 w2 s3
              have hk' : (match Nat.beq j ex with | true => itF S n (Hr ++ Z) items some | false => fun _ _ _ => none) R' n' H' = some z := hk
              cases e : Nat.beq j ex with
              | true =>
                rw [e] at hk'
                obtain rfl := Nat.eq_of_beq_eq_true e
                obtain ⟨x', H'', hA, hx'⟩ := afo hk'
                obtain rfl : x' = z := Option.some.inj hx'
                obtain ⟨ρ3, a3, n3, s4⟩ := agI hA (a1.trans ha n1) hC hZ s3
                refine he j ρ3 _ _ _ a3 n3 h2 a2 w2 ⟨by rw [List.append_assoc]; exact s4.regs, s4.below, s4.lo, s4.sat.perm ?_⟩
                show (dH S.kt ρ3 (itB S items x' n).2.1 ++ (dH S.kt ρ3 (Hr ++ Z) ++ [F])).Perm (dH S.kt ρ3 ((itB S items x' n).2.1 ++ Hr) ++ (dH S.kt ρ3 Z ++ [F]))
                rw [dHa, dHa]; exact aaq fun f g h1 h2 h3 => by simp only [h1, h2, h3]; omega
              | false =>
                rw [e] at hk'
                cases hk'
            · exact fun ρ2 R' n' H' ha hle hk => by cases hk
        · cases h
      · cases h
    · rename_i k _
      intro a w s
      refine wpIn_loop_rounds k ?_
      suffices key : ∀ (k : Nat) {R : aaM} {n : Nat} {H : S.kt.H} {ρ : Env} {a : Act} {w : World}, apw S (fun R n H kn => ev S P call hs nt c α C Z R n H kn ke kr) k R n H = some out → (∀ j, KOk S.kt Q nt B W C Z F out (.exit j) ρ n (ke j)) → KOk S.kt Q nt B W C Z F out .ret ρ n kr →
          Sta nt B W (dR ρ (R ++ C)) (dS S.kt ρ Z H F) a w → Code.roundsIn (rf none) 0 P c Q k a w from key k h he hr s
      intro k
      induction k with
      | zero => intro R n H ρ a w h _ _ _; cases h
      | succ k ih =>
        intro R n H ρ a w h he hr s
        rw [roundsIn_succ]
        refine aeV hm hc c (Q := Exit.then (Code.roundsIn (rf none) 0 P c Q k) Q) (show ev S P call hs nt c α C Z R n H (apw S (fun R n H kn => ev S P call hs nt c α C Z R n H kn ke kr) k) ke kr = some out from h) ?_ ?_ ?_ a w s
        · exact fun ρ' R' n' H' ha hle hk a' w' s' => ih hk (fun j => (he j).from ha hle) (hr.from ha hle) s'
        · exact fun j ρ' R' n' H' ha hle hk a' w' s' => he j ρ' R' n' H' ha hle hk a' w' s'
        · exact fun ρ' R' n' H' ha hle hk a' w' s' => hr ρ' R' n' H' ha hle hk a' w' s'
    · rename_i t vals k _
      split at h
      · rename_i kk z hgt
        obtain ⟨m, hz, h⟩ := ak9 h
        intro a w s
        refine wpIn_loop_rounds k ?_
        suffices key : ∀ (k : Nat) {R : aaM} {n : Nat} {H : S.kt.H} {ρ : Env} {a : Act} {w : World}, apw S (fun R n H kn => ev S P call hs nt c α C Z R n H kn ke kr) k R n H = some out → (∀ j, KOk S.kt Q nt B W C Z F out (.exit j) ρ n (ke j)) → KOk S.kt Q nt B W C Z F out .ret ρ n kr →
            Sta nt B W (dR ρ (R ++ C)) (dS S.kt ρ Z H F) a w → Code.roundsIn (rf none) 0 P c Q k a w from key k h he hr ⟨anX hgt hz s.regs, s.below, s.lo, s.sat⟩
        intro k
        induction k with
        | zero => intro R n H ρ a w h _ _ _; cases h
        | succ k ih =>
          intro R n H ρ a w h he hr s
          rw [roundsIn_succ]
          refine aeV hm hc c (Q := Exit.then (Code.roundsIn (rf none) 0 P c Q k) Q) (show ev S P call hs nt c α C Z R n H (apw S (fun R n H kn => ev S P call hs nt c α C Z R n H kn ke kr) k) ke kr = some out from h) ?_ ?_ ?_ a w s
          · exact fun ρ' R' n' H' ha hle hk a' w' s' => ih hk (fun j => (he j).from ha hle) (hr.from ha hle) s'
          · exact fun j ρ' R' n' H' ha hle hk a' w' s' => he j ρ' R' n' H' ha hle hk a' w' s'
          · exact fun ρ' R' n' H' ha hle hk a' w' s' => hr ρ' R' n' H' ha hle hk a' w' s'
      · cases h
    · cases h
  | .rangeFunc .., _, _, _, _, _, _, _, _, _, _, _, _, h, _, _, _ => by cases h
  | .scope _, _, _, _, _, _, _, _, _, _, _, _, _, h, _, _, _ => by cases h
  | .label _, _, _, _, _, _, _, _, _, _, _, _, _, h, _, _, _ => by cases h
  | .goto _, _, _, _, _, _, _, _, _, _, _, _, _, h, _, _, _ => by cases h
  | .refuse _, _, _, _, _, _, _, _, _, _, _, _, _, h, _, _, _ => by cases h
end
section
variable {K : KT} {P : Program} {nt B : Nat}
theorem aiv {R : aaM} {H : KT.H K} {ρ : Env} {a : Act} {w : World} {X : List aag} (r : Regs nt a (dR ρ R)) (s : Sat B w (dH K ρ H ++ X)) : ∀ {rs : List ResultVar} {l : List V}, apc K P R H rs = some l →
    (rs.mapM (m := Sem) fun | .tmp t => pure (a.tmps.getD t undef) | .cell ad t => do loadVar t (← asAddr (a.tmps.getD ad undef))).run P w = .ok (aak ρ l) w
  | [], l, h => by cases h; rfl
  | .tmp t :: rs, l, h => by
    unfold apc at h
    split at h
    · rename_i v hv
      split at h
      · rename_i vs hvs
        cases h
        rw [List.mapM_cons]
        have := r.has _ (afQ (ρ := ρ) hv)
        rw [aae (a := aap ρ v) (w' := w) (by simp [Array.getD_eq_getD_getElem?, this, pure]), aae (aiv r s hvs)]
        rfl
      · cases h
    · cases h
  | .cell t T :: rs, l, h => by
    unfold apc at h
    split at h
    · rename_i u hu
      split at h
      · rename_i v hv
        split at h
        · rename_i vs hvs
          cases h
          rw [List.mapM_cons]
          have hreg := r.has _ (afQ (ρ := ρ) hu)
          have hl : (do loadVar T (← asAddr (a.tmps.getD t undef)) : Sem Value).run P w = .ok (aap ρ v) w := by
            unfold ldV at hv
            split at hv
            · rename_i id o
              simp only [aap] at hreg
              have e : a.tmps.getD t undef = .pointer (some ⟨(ρ.p id).1, (ρ.p id).2 + o, none⟩) := by simp [Array.getD_eq_getD_getElem?, hreg]
              rw [e]
              rw [aae (a := (⟨(ρ.p id).1, (ρ.p id).2 + o, none⟩ : Addr)) (w' := w) rfl]
              split at hv
              · rename_i hT
                exact aex (us := [aap ρ v]) hT rfl (fun j u hj => by
                  cases j with
                  | zero => simp at hj; subst hj; exact akV hv s
                  | succ j => simp at hj) rfl
              · rename_i k hT
                simp only [Option.map_eq_some_iff] at hv
                obtain ⟨l, hl, rfl⟩ := hv
                obtain ⟨h1, h2⟩ := akU hl s
                exact aex hT (by rw [aaJ]; simpa using h1) h2 rfl
              · cases hv
            · cases hv
          rw [aae hl, aae (aiv r s hvs)]
          rfl
        · cases h
      · cases h
    · cases h
theorem akH {ρ : Env} (l : List V) : akG (aak ρ l) = aap ρ (apx l) := by
  match l with
  | [] => rfl
  | [v] => rfl
  | _ :: _ :: _ => rfl
theorem ahn {fn : Func} {R : aaM} {H : KT.H K} {ρ : Env} {a : Act} {w : World} {X : List aag} {l : List V} (r : Regs nt a (dR ρ R)) (s : Sat B w (dH K ρ H ++ X)) (h : apc K P R H fn.results.toList = some l) : (results fn a.tmps).run P w = .ok (aap ρ (apx l)) w := by
  unfold results
  have e : fn.results = fn.results.toList.toArray := by simp
  rw [e, ← akH]
  simp only [List.mapM_toArray]
  rw [aae (a := (aak ρ l).toArray) (w' := w) (by
    rw [map_eq_pure_bind]
    exact aae (aiv r s h))]
  match l with
  | [] => rfl
  | [v] => rfl
  | _ :: _ :: _ => rfl
end
def ap1 : Nat → List V → aaM
  | _, [] => []
  | i, v :: l => (i, v) :: ap1 (i + 1) l
section
variable (S : Shp) (P : Program)
noncomputable def evF (call : agt S.kt) (hs : List (Nat × Hint)) {α : Type} (fn : Func) (vs : List V) (n : Nat) (Z H : S.kt.H) (k : Nat → S.kt.H → V → Option α) : Option α :=
  match fn.body with
  | some c => match Nat.ble vs.length fn.ntmps with
    | true => ev S P call hs fn.ntmps c α [] Z (ap1 0 vs) n H
      (fun R n H => match apc S.kt P R H fn.results.toList with | some l => k n H (apx l) | none => none) (fun _ _ _ _ => none)
      (fun R n H => match apc S.kt P R H fn.results.toList with | some l => k n H (apx l) | none => none)
    | false => none
  | none => none
noncomputable def inl (tb : List (Nat × Func)) (hs : Nat → List (Nat × Hint)) (known : agt S.kt) : Nat → agt S.kt
  | 0 => known
  | m + 1 => fun α f vs n Z H k => match get tb f with
    | some fn => match Nat.blt f aew with
      | true => evF S P (inl tb hs known m) (hs f) fn vs n Z H k
      | false => none
    | none => known α f vs n Z H k
end
section
variable {S : Shp} {P : Program} {B : Nat} {W : World} {hs : List (Nat × Hint)}
theorem ajl : ∀ (l : List V) (i : Nat) (ρ : Env) (p : Nat × Value), p ∈ dR ρ (ap1 i l) → i ≤ p.1 ∧ (aak ρ l)[p.1 - i]? = some p.2
  | [], _, _, _, h => by cases h
  | v :: l, i, ρ, p, h => by
    rcases List.mem_cons.1 h with e | e
    · subst e
      exact ⟨Nat.le_refl _, by simp [aak]⟩
    · obtain ⟨h1, h2⟩ := ajl l (i + 1) ρ p e
      refine ⟨by omega, ?_⟩
      obtain ⟨m, hm⟩ : ∃ m, p.1 - i = m + 1 := ⟨p.1 - (i + 1), by omega⟩
      rw [hm, aak, List.getElem?_cons_succ, ← h2]
      congr 1; omega
theorem apr (hm : P.follows .mixedOrders = true) {call : agt S.kt} (hc : ags S.kt P B W call) {α : Type} {fid : FuncId} {fn : Func} (hf : P.funcs[fid]? = some fn) {vs : List V} {n : Nat} {Z H : S.kt.H} {k : Nat → S.kt.H → V → Option α} {out : α} (h : evF S P call hs fn vs n Z H k = some out) {F : aag} {ρ : Env} {w : World}
    (hw : Cls B W (dS S.kt ρ Z H F) w) : Calls P fid (aak ρ vs).toArray w fun e w' => ∃ x : Nx S.kt, (aat n ρ x.ρ ∧ n ≤ x.n ∧ k x.n x.H x.v = some out) ∧ e = .returned (aap x.ρ x.v) ∧ Cls B W (dS S.kt x.ρ Z x.H F) w' := by
  unfold evF at h
  split at h
  · rename_i c hb
    split at h
    · rename_i hle
      have hle' := Nat.le_of_ble_eq_true hle
      refine calls_of_wp hf hb (wpIn_wide (n := 0).1 ?_)
      have key := aeV (nt := fn.ntmps) (B := B) (W := W) (F := F) hm hc c (Q := bodyPost P fn fun e w' => ∃ x : Nx S.kt, (aat n ρ x.ρ ∧ n ≤ x.n ∧ k x.n x.H x.v = some out) ∧ e = .returned (aap x.ρ x.v) ∧ Cls B W (dS S.kt x.ρ Z x.H F) w') (ρ := ρ) h ?_ ?_ ?_
      · refine key _ w (hw.st ⟨by simp [aaJ]; omega, rfl, fun p hp => ?_⟩)
        rw [List.append_nil] at hp
        obtain ⟨_, h2⟩ := ajl vs 0 ρ p hp
        rw [Nat.sub_zero] at h2
        have hlt := (List.getElem?_eq_some_iff.1 h2).1
        rw [Array.getElem?_append_left (by simpa using hlt)]
        simpa using h2
      · intro ρ' R' n' H' ha hn hk a w' s
        rw [List.append_nil] at s
        dsimp only at hk
        split at hk
        · rename_i l hl
          exact ⟨s.regs.defers, _, ahn s.regs s.sat hl, ⟨ρ', n', H', apx l⟩, ⟨ha, hn, hk⟩, rfl, s.cls⟩
        · cases hk
      · exact fun j ρ' R' n' H' ha hn hk => by cases hk
      · intro ρ' R' n' H' ha hn hk a w' s
        rw [List.append_nil] at s
        dsimp only at hk
        split at hk
        · rename_i l hl
          exact bodyPost_ret (ahn s.regs s.sat hl) s.regs.defers ⟨⟨ρ', n', H', apx l⟩, ⟨ha, hn, hk⟩, rfl, s.cls⟩
        · cases hk
    · cases h
  · cases h
theorem apo (hm : P.follows .mixedOrders = true) {tb : List (Nat × Func)} {hs : Nat → List (Nat × Hint)} (ht : ∀ p ∈ tb, P.funcs[p.1]? = some p.2) {known : agt S.kt} (hk : ags S.kt P B W known) : ∀ m, ags S.kt P B W (inl S P tb hs known m)
  | 0 => hk
  | m + 1 => fun α f vs n Z H k out h h1 h2 h3 F ρ w hw => by
    unfold inl at h
    split at h
    · rename_i fn hg
      split at h
      · rename_i hb
        rw [ac8 hb]
        exact apr hm (apo hm ht hk m) (ht _ (akh hg)) h hw
      · cases h
    · exact hk α f vs n Z H k out h h1 h2 h3 F ρ w hw
end
class Tb where
  tb : Nat → Int
  rg : ∀ i, 0 ≤ tb i ∧ tb i ≤ 255
def asI [_T : Tb] (_B : Nat) (_W : World) : Prop := True
inductive Pk where
  | sh (s : Sh)
  | val (c : Nat)
  | ref (c : Nat)
  | mch
  | lent (c : Nat)
inductive Rk where
  | sh (s : Sh)
  | val (c : Nat)
section
variable (S : Shp)
def pkT : Pk → Type
  | .sh s => shT S.T S.M s
  | .val c => S.T c
  | .ref c => S.T c
  | .mch => S.M
  | .lent c => List (S.T c)
def alp : List Pk → Type
  | [] => Unit
  | p :: l => pkT S p × alp l
def rkT : Rk → Type
  | .sh s => shT S.T S.M s
  | .val c => S.T c
def alo : List Rk → Type
  | [] => Unit
  | p :: l => rkT S p × alo l
def ai4 : List Pk → Type
  | [] => Unit
  | .ref c :: l => S.T c × ai4 l
  | .mch :: l => S.M × ai4 l
  | .lent c :: l => List (S.T c) × ai4 l
  | .sh _ :: l => ai4 l
  | .val _ :: l => ai4 l
def anJ (c : Nat) (x : S.T c) (v : Value) : aag := fun h => ∃ us : List Value, v = .agg us.toArray ∧ aba (fsS (pcS S.kt) (S.kt.vw c x) us) h
def aik : (ps : List Pk) → alp S ps → List Value → List aag
  | [], _, [] => []
  | .sh s :: ps, x, v :: vs => pcS S.kt (vw1 S.T S.M s x.1) v :: aik ps x.2 vs
  | .val c :: ps, x, v :: vs => anJ S c x.1 v :: aik ps x.2 vs
  | .ref c :: ps, x, v :: vs => pcS S.kt (.own c x.1) v :: aik ps x.2 vs
  | .mch :: ps, x, v :: vs => pcS S.kt (.mach x.1) v :: aik ps x.2 vs
  | .lent c :: ps, x, v :: vs => pcS S.kt (.row c x.1) v :: aik ps x.2 vs
  | _, _, _ => [fun _ => False]
def aeX : (ps : List Pk) → ai4 S ps → List Value → List aag
  | [], _, _ => []
  | .sh _ :: ps, x, _ :: vs => aeX ps x vs
  | .val _ :: ps, x, _ :: vs => aeX ps x vs
  | .ref c :: ps, x, v :: vs => pcS S.kt (.own c x.1) v :: aeX ps x.2 vs
  | .mch :: ps, x, v :: vs => pcS S.kt (.mach x.1) v :: aeX ps x.2 vs
  | .lent c :: ps, x, v :: vs => pcS S.kt (.row c x.1) v :: aeX ps x.2 vs
  | _ :: _, _, [] => []
def alO : (rs : List Rk) → alo S rs → List Value → List aag
  | [], _, [] => []
  | .sh s :: rs, x, v :: vs => pcS S.kt (vw1 S.T S.M s x.1) v :: alO rs x.2 vs
  | .val c :: rs, x, v :: vs => anJ S c x.1 v :: alO rs x.2 vs
  | _, _, _ => [fun _ => False]
def ao5 [Tb] (P : Program) (f : FuncId) (ps : List Pk) (rs : List Rk) (spec : alp S ps → Option (alo S rs × ai4 S ps)) : Prop :=
  ∀ x out, spec x = some out → ∀ B W, asI B W → ∀ vs F w, Cls B W (aik S ps x vs ++ [F]) w → aeo P f vs.toArray w fun e w' => ∃ us, e = .returned (akG us) ∧ Cls B W (alO S rs out.1 us ++ (aeX S ps out.2 vs ++ [F])) w'
def cin : (ps : List Pk) → alp S ps → Nat → List V × List (Nat × Ch S.T S.M) × Nat
  | [], _, n => ([], [], n)
  | .sh s :: ps, x, n => ((opF S.kt.vw n (.f (vw1 S.T S.M s x.1))).1 :: (cin ps x.2 (n + 1)).1, chL S n (opF S.kt.vw n (.f (vw1 S.T S.M s x.1))).2 ++ (cin ps x.2 (n + 1)).2.1, (cin ps x.2 (n + 1)).2.2)
  | .ref c :: ps, x, n => (.ptr n 0 :: (cin ps x.2 (n + 1)).1, (n, .cells ((S.kt.vw c x.1).map .f)) :: (cin ps x.2 (n + 1)).2.1, (cin ps x.2 (n + 1)).2.2)
  | .mch :: ps, x, n => (.mc n :: (cin ps x.2 (n + 1)).1, (n, .mach x.1) :: (cin ps x.2 (n + 1)).2.1, (cin ps x.2 (n + 1)).2.2)
  | .lent c :: ps, x, n => (.sl n :: (cin ps x.2 (n + 1)).1, (n, .row c x.1) :: (cin ps x.2 (n + 1)).2.1, (cin ps x.2 (n + 1)).2.2)
  | .val c :: ps, x, n => (.agg (opL S n (S.kt.vw c x.1)).1 :: (cin ps x.2 (n + S.kt.sz c)).1, (opL S n (S.kt.vw c x.1)).2 ++ (cin ps x.2 (n + S.kt.sz c)).2.1, (cin ps x.2 (n + S.kt.sz c)).2.2)
def ajT : (rs : List Rk) → alo S rs → Nat → List V × List (Nat × Ch S.T S.M) × Nat
  | [], _, n => ([], [], n)
  | .sh s :: rs, x, n => ((opF S.kt.vw n (.f (vw1 S.T S.M s x.1))).1 :: (ajT rs x.2 (n + 1)).1, chL S n (opF S.kt.vw n (.f (vw1 S.T S.M s x.1))).2 ++ (ajT rs x.2 (n + 1)).2.1, (ajT rs x.2 (n + 1)).2.2)
  | .val c :: rs, x, n => (.agg (opL S n (S.kt.vw c x.1)).1 :: (ajT rs x.2 (n + S.kt.sz c)).1, (opL S n (S.kt.vw c x.1)).2 ++ (ajT rs x.2 (n + S.kt.sz c)).2.1, (ajT rs x.2 (n + S.kt.sz c)).2.2)
end
section
variable {S : Shp} {B : Nat} {w : World}
theorem aj2 {c : Nat} {x : S.T c} {v : Value} {L : List aag} (s : Sat B w (anJ S c x v :: L)) : ∃ us : List Value, v = .agg us.toArray ∧ Sat B w (fsS (pcS S.kt) (S.kt.vw c x) us ++ L) := by
  obtain ⟨h, Hh, k1, k2, a, e, ⟨us, h1, h2⟩, hL⟩ := s
  exact ⟨us, h1, h, Hh, aan.2 ⟨k1, k2, a, e, h2, hL⟩⟩
theorem aif : ∀ {ps : List Pk} {x : alp S ps} {n : Nat} {vs : List Value} {ρ : Env} {X : Env → List aag}, (∀ ρ ρ', aat n ρ ρ' → X ρ = X ρ') → Sat B w (aik S ps x vs ++ X ρ) →
    ∃ ρ', aat n ρ ρ' ∧ vs = aak ρ' (cin S ps x n).1 ∧ Sat B w (dH S.kt ρ' (cin S ps x n).2.1 ++ X ρ')
  | [], x, n, [], ρ, X, hX, s => ⟨ρ, aat.refl _ _, rfl, s⟩
  | [], x, n, _ :: _, ρ, X, hX, s => aaN s
  | .sh s0 :: ps, x, n, [], ρ, X, hX, s => aaN s
  | .val c :: ps, x, n, [], ρ, X, hX, s => aaN s
  | .ref c :: ps, x, n, [], ρ, X, hX, s => aaN s
  | .mch :: ps, x, n, [], ρ, X, hX, s => aaN s
  | .lent c :: ps, x, n, [], ρ, X, hX, s => aaN s
  | .sh s0 :: ps, x, n, v :: vs, ρ, X, hX, s => by
    obtain ⟨ρ1, a1, e1, s1⟩ := ahu (n := n) (f := vw1 S.T S.M s0 x.1) (Y := aik S ps x.2 vs) hX s
    obtain ⟨ρ2, a2, e2, s2⟩ := aif (n := n + 1) (alE (f := vw1 S.T S.M s0 x.1) hX) s1
    have htop := (aeu (K := S.kt) (n := n) (f := .f (vw1 S.T S.M s0 x.1)) (Nat.zero_le _)).1
    refine ⟨ρ2, a1.trans a2 (Nat.le_succ n), ?_, ?_⟩
    · simp only [cin, aak]
      rw [e1, ← e2, aaX a2 _ htop]
    · simp only [cin, dHa]
      refine s2.perm ?_
      rw [List.append_assoc]
      exact ab2 _ _ _
  | .ref c :: ps, x, n, v :: vs, ρ, X, hX, s => by
    obtain ⟨ρ1, a1, e1, s1⟩ := ahu (n := n) (f := .own c x.1) (Y := aik S ps x.2 vs) hX s
    obtain ⟨ρ2, a2, e2, s2⟩ := aif (n := n + 1) (alE (f := .own c x.1) hX) s1
    have htop := (aeu (K := S.kt) (n := n) (f := .f (.own c x.1)) (Nat.zero_le _)).1
    refine ⟨ρ2, a1.trans a2 (Nat.le_succ n), ?_, ?_⟩
    · simp only [cin, aak]
      rw [e1, ← e2, aaX a2 _ htop]
      rfl
    · have : dH S.kt ρ2 (cin S (.ref c :: ps) x n).2.1 = dH S.kt ρ2 (chL S n (opF S.kt.vw n (.f (.own c x.1))).2) ++ dH S.kt ρ2 (cin S ps x.2 (n + 1)).2.1 := rfl
      rw [this]
      refine s2.perm ?_
      rw [List.append_assoc]
      exact ab2 _ _ _
  | .mch :: ps, x, n, v :: vs, ρ, X, hX, s => by
    obtain ⟨ρ1, a1, e1, s1⟩ := ahu (n := n) (f := .mach x.1) (Y := aik S ps x.2 vs) hX s
    obtain ⟨ρ2, a2, e2, s2⟩ := aif (n := n + 1) (alE (f := .mach x.1) hX) s1
    have htop := (aeu (K := S.kt) (n := n) (f := .f (.mach x.1)) (Nat.zero_le _)).1
    refine ⟨ρ2, a1.trans a2 (Nat.le_succ n), ?_, ?_⟩
    · simp only [cin, aak]
      rw [e1, ← e2, aaX a2 _ htop]
      rfl
    · have : dH S.kt ρ2 (cin S (.mch :: ps) x n).2.1 = dH S.kt ρ2 (chL S n (opF S.kt.vw n (.f (.mach x.1))).2) ++ dH S.kt ρ2 (cin S ps x.2 (n + 1)).2.1 := rfl
      rw [this]
      refine s2.perm ?_
      rw [List.append_assoc]
      exact ab2 _ _ _
  | .lent c :: ps, x, n, v :: vs, ρ, X, hX, s => by
    obtain ⟨ρ1, a1, e1, s1⟩ := ahu (n := n) (f := .row c x.1) (Y := aik S ps x.2 vs) hX s
    obtain ⟨ρ2, a2, e2, s2⟩ := aif (n := n + 1) (alE (f := .row c x.1) hX) s1
    have htop := (aeu (K := S.kt) (n := n) (f := .f (.row c x.1)) (Nat.zero_le _)).1
    refine ⟨ρ2, a1.trans a2 (Nat.le_succ n), ?_, ?_⟩
    · simp only [cin, aak]
      rw [e1, ← e2, aaX a2 _ htop]
      rfl
    · have : dH S.kt ρ2 (cin S (.lent c :: ps) x n).2.1 = dH S.kt ρ2 (chL S n (opF S.kt.vw n (.f (.row c x.1))).2) ++ dH S.kt ρ2 (cin S ps x.2 (n + 1)).2.1 := rfl
      rw [this]
      refine s2.perm ?_
      rw [List.append_assoc]
      exact ab2 _ _ _
  | .val c :: ps, x, n, v :: vs, ρ, X, hX, s => by
    obtain ⟨us, hv, s0⟩ := aj2 s
    obtain ⟨ρ1, a1, e1, s1⟩ := amv (n := n) (l := S.kt.vw c x.1) (Y := aik S ps x.2 vs) hX s0
    obtain ⟨ρ2, a2, e2, s2⟩ := aif (n := n + S.kt.sz c) (ar2 (S.kt.sz_ok c x.1) hX) s1
    refine ⟨ρ2, a1.trans a2 (Nat.le_add_right ..), ?_, ?_⟩
    · simp only [cin, aak, aap]
      rw [hv, e1, ← e2, (af9 (a2.le (Nat.le_of_eq (congrArg (n + ·) (S.kt.sz_ok c x.1))))).1]
    · simp only [cin, dHa]
      refine s2.perm ?_
      rw [List.append_assoc]
      exact ab2 _ _ _
theorem akm : ∀ {rs : List Rk} {x : alo S rs} {n : Nat} {vs : List Value} {ρ : Env} {X : Env → List aag}, (∀ ρ ρ', aat n ρ ρ' → X ρ = X ρ') → Sat B w (alO S rs x vs ++ X ρ) →
    ∃ ρ', aat n ρ ρ' ∧ vs = aak ρ' (ajT S rs x n).1 ∧ Sat B w (dH S.kt ρ' (ajT S rs x n).2.1 ++ X ρ')
  | [], x, n, [], ρ, X, hX, s => ⟨ρ, aat.refl _ _, rfl, s⟩
  | [], x, n, _ :: _, ρ, X, hX, s => aaN s
  | .sh s0 :: ps, x, n, [], ρ, X, hX, s => aaN s
  | .val c :: ps, x, n, [], ρ, X, hX, s => aaN s
  | .sh s0 :: ps, x, n, v :: vs, ρ, X, hX, s => by
    obtain ⟨ρ1, a1, e1, s1⟩ := ahu (n := n) (f := vw1 S.T S.M s0 x.1) (Y := alO S ps x.2 vs) hX s
    obtain ⟨ρ2, a2, e2, s2⟩ := akm (n := n + 1) (alE (f := vw1 S.T S.M s0 x.1) hX) s1
    have htop := (aeu (K := S.kt) (n := n) (f := .f (vw1 S.T S.M s0 x.1)) (Nat.zero_le _)).1
    refine ⟨ρ2, a1.trans a2 (Nat.le_succ n), ?_, ?_⟩
    · simp only [ajT, aak]
      rw [e1, ← e2, aaX a2 _ htop]
    · simp only [ajT, dHa]
      refine s2.perm ?_
      rw [List.append_assoc]
      exact ab2 _ _ _
  | .val c :: ps, x, n, v :: vs, ρ, X, hX, s => by
    obtain ⟨us, hv, s0⟩ := aj2 s
    obtain ⟨ρ1, a1, e1, s1⟩ := amv (n := n) (l := S.kt.vw c x.1) (Y := alO S ps x.2 vs) hX s0
    obtain ⟨ρ2, a2, e2, s2⟩ := akm (n := n + S.kt.sz c) (ar2 (S.kt.sz_ok c x.1) hX) s1
    refine ⟨ρ2, a1.trans a2 (Nat.le_add_right ..), ?_, ?_⟩
    · simp only [ajT, aak, aap]
      rw [hv, e1, ← e2, (af9 (a2.le (Nat.le_of_eq (congrArg (n + ·) (S.kt.sz_ok c x.1))))).1]
    · simp only [ajT, dHa]
      refine s2.perm ?_
      rw [List.append_assoc]
      exact ab2 _ _ _
end
section
variable (S : Shp)
def asF (H : S.kt.H) (c : Nat) (v : V) : Option (S.T c × S.kt.H) :=
  match v with
  | .agg l => match ajU S.kt (asm S.kt) H (S.kt.vw c (S.kt.df c)) (l.map .v) with
    | some (fs, H') => match S.kt.bk c fs with
      | some x => some (x, H')
      | none => none
    | none => none
  | _ => none
def aq4 : (rs : List Rk) → S.kt.H → List V → Option (alo S rs × S.kt.H)
  | [], H, [] => some ((), H)
  | .sh s :: rs, H, v :: vs => match anD S H s v with
    | some (x, H1) => match aq4 rs H1 vs with
      | some (r, H2) => some ((x, r), H2)
      | none => none
    | none => none
  | .val c :: rs, H, v :: vs => match asF S H c v with
    | some (x, H1) => match aq4 rs H1 vs with
      | some (r, H2) => some ((x, r), H2)
      | none => none
    | none => none
  | _, _, _ => none
def anP : (ps : List Pk) → Nat → S.kt.H → Option (ai4 S ps × S.kt.H)
  | [], _, H => some ((), H)
  | .sh _ :: ps, n, H => anP ps (n + 1) H
  | .val c :: ps, n, H => anP ps (n + S.kt.sz c) H
  | .ref c :: ps, n, H => match anD S H (.own c) (.ptr n 0) with
    | some (x, H1) => match anP ps (n + 1) H1 with
      | some (r, H2) => some ((x, r), H2)
      | none => none
    | none => none
  | .mch :: ps, n, H => match anD S H .mach (.mc n) with
    | some (x, H1) => match anP ps (n + 1) H1 with
      | some (r, H2) => some ((x, r), H2)
      | none => none
    | none => none
  | .lent c :: ps, n, H => match anD S H (.row c) (.sl n) with
    | some (x, H1) => match anP ps (n + 1) H1 with
      | some (r, H2) => some ((x, r), H2)
      | none => none
    | none => none
def asQ : List Rk → V → Option (List V)
  | [_], v => some [v]
  | _, .tup l => match Nat.beq l.length 1 with
    | true => none
    | false => some l
  | _, _ => none
def asZ (ps : List Pk) (rs : List Rk) : Nat → S.kt.H → V → Option (alo S rs × ai4 S ps) := fun _ H v =>
  match asQ rs v with
  | some l => match aq4 S rs (asB S.kt H) l with
    | some (r, H1) => match anP S ps 0 H1 with
      | some (o, _) => some (r, o)
      | none => none
    | none => none
  | none => none
end
section
variable {S : Shp} {B : Nat} {w : World}
theorem anB {H H' : S.kt.H} {c : Nat} {v : V} {x : S.T c} (h : asF S H c v = some (x, H')) {ρ : Env} {X : List aag} (s : Sat B w (dH S.kt ρ H ++ X)) : Sat B w (anJ S c x (aap ρ v) :: (dH S.kt ρ H' ++ X)) := by
  unfold asF at h
  split at h
  · rename_i l
    split at h
    · rename_i fs H1 hl
      split at h
      · rename_i y hy
        cases h
        have s1 := aeI ahO hl (ρ := ρ) (X := X) (vs := aak ρ l) (s.imp fun k hk => aeB hk)
        rw [← S.kt.bk_ok _ _ _ hy] at s1
        refine s1.imp fun k hk => ?_
        obtain ⟨k1, k2, a, e, g1, g2⟩ := aan.1 hk
        exact ⟨k1, k2, a, e, ⟨aak ρ l, rfl, g1⟩, g2⟩
      · cases h
    · cases h
  · cases h
theorem akA : ∀ {rs : List Rk} {H H' : S.kt.H} {vs : List V} {r : alo S rs}, aq4 S rs H vs = some (r, H') → ∀ {ρ : Env} {X : List aag}, Sat B w (dH S.kt ρ H ++ X) → Sat B w (alO S rs r (aak ρ vs) ++ (dH S.kt ρ H' ++ X))
  | [], H, H', [], r, h, ρ, X, s => by cases h; exact s
  | [], _, _, _ :: _, _, h, _, _, _ => by cases h
  | .sh s0 :: rs, H, H', [], r, h, _, _, _ => by cases h
  | .val c :: rs, H, H', [], r, h, _, _, _ => by cases h
  | .sh s0 :: rs, H, H', v :: vs, r, h, ρ, X, s => by
    unfold aq4 at h
    split at h
    · rename_i x H1 h1
      split at h
      · rename_i r' H2 h2
        cases h
        have s1 := aeJ h1 s
        have s2 := akA h2 (X := pcS S.kt (vw1 S.T S.M s0 x) (aap ρ v) :: X) (s1.perm (List.perm_middle (l₁ := dH S.kt ρ H1)).symm)
        exact s2.perm (afA _ _ _ _)
      · cases h
    · cases h
  | .val c :: rs, H, H', v :: vs, r, h, ρ, X, s => by
    unfold aq4 at h
    split at h
    · rename_i x H1 h1
      split at h
      · rename_i r' H2 h2
        cases h
        have s1 := anB h1 s
        have s2 := akA h2 (X := anJ S c x (aap ρ v) :: X) (s1.perm (List.perm_middle (l₁ := dH S.kt ρ H1)).symm)
        exact s2.perm (afA _ _ _ _)
      · cases h
    · cases h
def ahP (S : Shp) (ρ : Env) : List Pk → Nat → List Value → Prop
  | [], _, _ => True
  | .sh _ :: ps, n, _ :: vs => ahP S ρ ps (n + 1) vs
  | .val c :: ps, n, _ :: vs => ahP S ρ ps (n + S.kt.sz c) vs
  | .ref _ :: ps, n, v :: vs => v = aap ρ (.ptr n 0) ∧ ahP S ρ ps (n + 1) vs
  | .mch :: ps, n, v :: vs => v = aap ρ (.mc n) ∧ ahP S ρ ps (n + 1) vs
  | .lent _ :: ps, n, v :: vs => v = aap ρ (.sl n) ∧ ahP S ρ ps (n + 1) vs
  | _ :: _, _, [] => False
theorem agO : ∀ {ps : List Pk} {n : Nat} {H H' : S.kt.H} {o : ai4 S ps}, anP S ps n H = some (o, H') → ∀ {ρ : Env} {vs : List Value} {X : List aag}, ahP S ρ ps n vs → Sat B w (dH S.kt ρ H ++ X) → Sat B w (aeX S ps o vs ++ (dH S.kt ρ H' ++ X))
  | [], n, H, H', o, h, ρ, vs, X, _, s => by
    cases h
    cases vs <;> exact s
  | _ :: _, n, H, H', o, h, ρ, [], X, ha, s => by
    rename_i p ps
    cases p <;> exact ha.elim
  | .sh _ :: ps, n, H, H', o, h, ρ, v :: vs, X, ha, s => agO (ps := ps) (n := n + 1) h ha s
  | .val c :: ps, n, H, H', o, h, ρ, v :: vs, X, ha, s => agO (ps := ps) (n := n + S.kt.sz c) h ha s
  | .ref c :: ps, n, H, H', o, h, ρ, v :: vs, X, ha, s => by
    unfold anP at h
    split at h
    · rename_i x H1 h1
      split at h
      · rename_i r H2 h2
        cases h
        have s1 := aeJ h1 s
        have s2 := agO h2 (X := pcS S.kt (vw1 S.T S.M (.own c) x) (aap ρ (.ptr n 0)) :: X) ha.2 (s1.perm (List.perm_middle (l₁ := dH S.kt ρ H1)).symm)
        have s3 := s2.perm (afA _ _ _ _)
        rw [← ha.1] at s3
        exact s3
      · cases h
    · cases h
  | .mch :: ps, n, H, H', o, h, ρ, v :: vs, X, ha, s => by
    unfold anP at h
    split at h
    · rename_i x H1 h1
      split at h
      · rename_i r H2 h2
        cases h
        have s1 := aeJ h1 s
        have s2 := agO h2 (X := pcS S.kt (vw1 S.T S.M .mach x) (aap ρ (.mc n)) :: X) ha.2 (s1.perm (List.perm_middle (l₁ := dH S.kt ρ H1)).symm)
        have s3 := s2.perm (afA _ _ _ _)
        rw [← ha.1] at s3
        exact s3
      · cases h
    · cases h
  | .lent c :: ps, n, H, H', o, h, ρ, v :: vs, X, ha, s => by
    unfold anP at h
    split at h
    · rename_i x H1 h1
      split at h
      · rename_i r H2 h2
        cases h
        have s1 := aeJ h1 s
        have s2 := agO h2 (X := pcS S.kt (vw1 S.T S.M (.row c) x) (aap ρ (.sl n)) :: X) ha.2 (s1.perm (List.perm_middle (l₁ := dH S.kt ρ H1)).symm)
        have s3 := s2.perm (afA _ _ _ _)
        rw [← ha.1] at s3
        exact s3
      · cases h
    · cases h
theorem aft : ∀ {ps : List Pk} {x : alp S ps} {n : Nat} {ρ ρ' : Env} {vs : List Value}, vs = aak ρ (cin S ps x n).1 → aat (cin S ps x n).2.2 ρ ρ' → ahP S ρ' ps n vs ∧ n ≤ (cin S ps x n).2.2
  | [], x, n, ρ, ρ', vs, h, a => ⟨trivial, Nat.le_refl _⟩
  | .sh s0 :: ps, x, n, ρ, ρ', vs, h, a => by
    subst h
    obtain ⟨h1, h2⟩ := aft (ps := ps) (x := x.2) (n := n + 1) rfl a
    exact ⟨h1, Nat.le_trans (Nat.le_succ n) h2⟩
  | .val c :: ps, x, n, ρ, ρ', vs, h, a => by
    subst h
    obtain ⟨h1, h2⟩ := aft (ps := ps) (x := x.2) (n := n + S.kt.sz c) rfl a
    exact ⟨h1, Nat.le_trans (Nat.le_add_right ..) h2⟩
  | .ref c :: ps, x, n, ρ, ρ', vs, h, a => by
    subst h
    obtain ⟨h1, h2⟩ := aft (ps := ps) (x := x.2) (n := n + 1) rfl a
    refine ⟨⟨?_, h1⟩, Nat.le_trans (Nat.le_succ n) h2⟩
    exact aaX (v := .ptr n 0) (n := n + 1) (a.le h2) (Nat.le_refl _)
  | .mch :: ps, x, n, ρ, ρ', vs, h, a => by
    subst h
    obtain ⟨h1, h2⟩ := aft (ps := ps) (x := x.2) (n := n + 1) rfl a
    refine ⟨⟨?_, h1⟩, Nat.le_trans (Nat.le_succ n) h2⟩
    exact aaX (v := .mc n) (n := n + 1) (a.le h2) (Nat.le_refl _)
  | .lent c :: ps, x, n, ρ, ρ', vs, h, a => by
    subst h
    obtain ⟨h1, h2⟩ := aft (ps := ps) (x := x.2) (n := n + 1) rfl a
    refine ⟨⟨?_, h1⟩, Nat.le_trans (Nat.le_succ n) h2⟩
    exact aaX (v := .sl n) (n := n + 1) (a.le h2) (Nat.le_refl _)
theorem an7 {rs : List Rk} {v : V} {l : List V} (h : asQ rs v = some l) (ρ : Env) : aap ρ v = akG (aak ρ l) := by
  unfold asQ at h
  split at h
  · cases h; rfl
  · split at h
    · cases h
    · rename_i l' hne
      cases h
      match l, hne with
      | [], _ => rfl
      | [_], hne => cases hne
      | _ :: _ :: _, _ => rfl
  · cases h
theorem aoO [Tb] {P : Program} (hm : P.follows .mixedOrders = true) {f : FuncId} {fn : Func} (hf : P.funcs[f]? = some fn) {call : agt S.kt} (hc : ∀ B W, asI B W → ags S.kt P B W call) {hs : List (Nat × Hint)} {ps : List Pk} {rs : List Rk} {spec : alp S ps → Option (alo S rs × ai4 S ps)}
    (h : ∀ x, evF S P call hs fn (cin S ps x 0).1 (cin S ps x 0).2.2 [] (cin S ps x 0).2.1 (asZ S ps rs) = spec x) (hb : Nat.blt f aew = true := by rfl) : ao5 S P f ps rs spec := by
  intro x out hx B W hg vs F w hw
  obtain ⟨ρ, _, e1, s1⟩ := aif (n := 0) (ρ := ⟨fun _ => (0, 0), fun _ => ⟨none, 0, 0⟩, fun _ => undef⟩) (X := fun _ => [F]) (fun _ _ _ => rfl) hw.2.2
  have s2 : Cls B W (dS S.kt ρ [] (cin S ps x 0).2.1 F) w := ⟨hw.1, hw.2.1, s1⟩
  have h1 := apr hm (hc B W hg) hf ((h x).trans hx) s2
  rw [← e1] at h1
  rw [ac8 hb]
  refine h1.mono fun e w' ⟨y, ⟨ha, hn, hk⟩, he, hb1, hb2, hs⟩ => ?_
  unfold asZ at hk
  split at hk
  · rename_i l hl
    split at hk
    · rename_i r H1 hr
      split at hk
      · rename_i o H2 ho
        cases hk
        have s3 := akA hr (X := [F]) (akr hs)
        have s4 : Sat B w' (dH S.kt y.ρ H1 ++ (alO S rs r (aak y.ρ l) ++ [F])) := s3.perm (ab2 _ _ _)
        have s5 := agO ho (aft e1 ha).1 s4
        refine ⟨aak y.ρ l, ?_, hb1, hb2, ?_⟩
        · rw [he, an7 hl]
        · have s6 := s5.perm (ab2 (aeX S ps o vs) (dH S.kt y.ρ H2) (alO S rs r (aak y.ρ l) ++ [F]))
          have s7 : Sat B w' (aeX S ps o vs ++ (alO S rs r (aak y.ρ l) ++ [F])) := s6.imp fun _ => ac3
          exact s7.perm (ab2 _ _ _)
      · cases hk
    · cases hk
  · cases hk
end
end
end Go.Proofs.Ytkmkhldmflebkaa
