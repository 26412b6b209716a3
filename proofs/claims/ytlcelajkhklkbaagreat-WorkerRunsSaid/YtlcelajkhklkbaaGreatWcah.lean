/- Evaluation by itself, 10: code; calls by their bodies. No program occurs here. Evaluation by itself: contracts of functions, from their bodies. No program occurs here. -/
import Derived.Test.YtlcelajkhklkbaaGreatWcag
import Derived.LoopNIn
import Derived.Test.YtlcelajkhklkbaaGreatWcae
set_option linter.all false
namespace Go.Proofs.YtlcelajkhklkbaaGreat
section
open Go Go.RowKit
abbrev Kt (K : KT) (α : Type) := aaQ → Nat → KT.H K → Option α
section
variable (K : KT) (P : Program)
def av5 (R : aaQ) (H : KT.H K) : List ResultVar → Option (List V)
  | [] => some []
  | .tmp t :: l => match get R t with
    | some v => match av5 R H l with
      | some vs => some (v :: vs)
      | none => none
    | none => none
  | .cell t T :: l => match get R t with
    | some u => match ldV K P H T u with
      | some v => match av5 R H l with
        | some vs => some (v :: vs)
        | none => none
      | none => none
    | none => none
def awt : List V → V
  | [v] => v
  | l => .tup l
end
inductive Hint where
  | loop (items : List Itm) (fuel ex : Nat)
  | cut (items : List Itm) (fz : List Nat)
  | loopR (items : List Itm) (fuel ex : Nat)
  | cutR (items : List Itm) (fz : List Nat)
  | close
  | unroll (k : Nat)
  | spl (t : Nat) (vals : List Nat) (k : Nat)
def agh : Code → Option Nat
  | .region id _ _ => some id
  | .seq a b => match agh a with
    | some i => some i
    | none => agh b
  | .block _ c => agh c
  | .loop c => agh c
  | .cond _ a b => match agh a with
    | some i => some i
    | none => agh b
  | .scope c => agh c
  | _ => none
def aAK : List Oper → List Nat
  | [] => []
  | o :: l => match o.dst with
    | some d => d :: aAK l
    | none => aAK l
def agG : Code → List Nat
  | .region _ ops _ => aAK ops.toList
  | .seq a b => agG a ++ agG b
  | .block _ c => agG c
  | .loop c => agG c
  | .cond _ a b => agG a ++ agG b
  | .scope c => agG c
  | _ => []
def adv (l : List Nat) : aaQ → aaQ
  | [] => []
  | (t, v) :: R => match inN l t with
    | true => adv l R
    | false => (t, v) :: adv l R
def auQ (l : List Nat) : aaQ → aaQ
  | [] => []
  | (t, v) :: R => match inN l t with
    | true => (t, v) :: auQ l R
    | false => auQ l R
def ahU {α : Type} (l : List Nat) : List (Nat × α) → List (Nat × α) × List (Nat × α)
  | [] => ([], [])
  | (t, v) :: R => match inN l t with
    | true => ((t, v) :: (ahU l R).1, (ahU l R).2)
    | false => ((ahU l R).1, (t, v) :: (ahU l R).2)
def lkH {T : Nat → Type} {M : Type} : List (Nat × Ch T M) → List (Nat × Ch T M)
  | [] => []
  | (t, v) :: R => match v with
    | .ro c xs => (t, .ro c xs) :: lkH R
    | .rr c xs => (t, .rr c xs) :: lkH R
    | _ => lkH R
theorem avL {K : KT} {ρ : Env} {t : Nat} {v : Ch K.T K.M} {L : List aaf} (h : (∃ c xs, v = .ro c xs) ∨ ∃ c xs, v = .rr c xs) : Ent (abL K ρ t v :: L) (abL K ρ t v :: abL K ρ t v :: L) := by
  rcases h with ⟨c, xs, rfl⟩ | ⟨c, xs, rfl⟩
  · rintro k ⟨k1, k2, a, e, ⟨h1, h2⟩, hL⟩
    exact aaF (fun _ h => ⟨h1, h⟩) (aa5 (fun _ => aaF fun _ h => ⟨h1, h⟩) (asz k ⟨k1, k2, a, e, h2, hL⟩))
  · rintro k ⟨k1, k2, a, e, ⟨h1, ps, h2⟩, hL⟩
    exact aaF (fun _ h => ⟨h1, ps, h⟩) (aa5 (fun _ => aaF fun _ h => ⟨h1, ps, h⟩) (ai4 k ⟨k1, k2, a, e, h2, hL⟩))
theorem awj {K : KT} {ρ : Env} {X : List aaf} : ∀ {Z : KT.H K}, Ent (dH K ρ Z ++ X) (dH K ρ (lkH Z) ++ (dH K ρ Z ++ X))
  | [] => Ent.refl
  | (t, v) :: Z => by
    have ih := awj (K := K) (ρ := ρ) (X := X) (Z := Z)
    have one : (∃ c xs, v = .ro c xs) ∨ (∃ c xs, v = .rr c xs) → Ent (dH K ρ ((t, v) :: Z) ++ X) (dH K ρ ((t, v) :: lkH Z) ++ (dH K ρ ((t, v) :: Z) ++ X)) := fun h k hk => by
      have h1 := avL h k (show abk (abL K ρ t v :: (dH K ρ Z ++ X)) k from hk)
      have h2 := aa5 (fun _ => aa5 (fun q hq => ih q hq)) h1
      refine aba ?_ h2
      show (abL K ρ t v :: abL K ρ t v :: (dH K ρ (lkH Z) ++ (dH K ρ Z ++ X))).Perm (abL K ρ t v :: (dH K ρ (lkH Z) ++ (abL K ρ t v :: (dH K ρ Z ++ X))))
      exact List.Perm.cons _ (List.perm_middle (l₁ := dH K ρ (lkH Z))).symm
    have none_ : Ent (dH K ρ ((t, v) :: Z) ++ X) (dH K ρ (lkH Z) ++ (dH K ρ ((t, v) :: Z) ++ X)) := fun k hk => by
      have h2 := aa5 (fun q hq => ih q hq) (show abk (abL K ρ t v :: (dH K ρ Z ++ X)) k from hk)
      exact aba (List.perm_middle (l₁ := dH K ρ (lkH Z))).symm h2
    unfold lkH
    split
    · exact one (.inl ⟨_, _, rfl⟩)
    · exact one (.inr ⟨_, _, rfl⟩)
    · exact none_
theorem aqr {K : KT} {nt B : Nat} {W : World} {ρ : Env} {L : ab4} {Y Z H : KT.H K} {F : aaf} {a : Act} {w : World} (s : Sta nt B W L (dS K ρ (Y ++ Z) H F) a w) : Sta nt B W L (dS K ρ (Y ++ Z) (H ++ lkH Y) F) a w := ⟨s.regs, s.below, s.lo, by
  have s1 : Sat B w (dH K ρ H ++ (dH K ρ (Y ++ Z) ++ [F])) := s.sat
  rw [alR, List.append_assoc] at s1
  have s2 : Sat B w (dH K ρ Y ++ (dH K ρ H ++ (dH K ρ Z ++ [F]))) := s1.perm (ab5 _ _ _)
  have s3 := s2.imp (awj (K := K) (ρ := ρ))
  refine s3.perm ?_
  show (dH K ρ (lkH Y) ++ (dH K ρ Y ++ (dH K ρ H ++ (dH K ρ Z ++ [F])))).Perm (dH K ρ (H ++ lkH Y) ++ (dH K ρ (Y ++ Z) ++ [F]))
  rw [alR, alR]; exact aar fun f g h1 h2 h3 => by simp only [h1, h2, h3]; omega⟩
def lpF {σ β : Type} (F : (σ → Option β) → σ → Option β) : Nat → σ → Option β
  | 0, _ => none
  | k + 1, x => F (lpF F k) x
def itF (S : Shp) (n : Nat) (Z : S.kt.H) (items : List Itm) {β : Type} (k : apc S items → Option β) : Kt S.kt β := fun R _ H => match itA S n Z items R H with
  | some (x, _) => k x
  | none => none
section
variable (S : Shp) (P : Program) (call : aim S.kt) (hs : List (Nat × Hint)) (nt : Nat)
def awr {α : Type} (body : aaQ → Nat → S.kt.H → Kt S.kt α → Option α) : Nat → Kt S.kt α
  | 0 => fun _ _ _ => none
  | k + 1 => fun R n H => body R n H (awr body k)
def avz {α : Type} (z : Int) (f : Nat → Option α) : List Nat → Option α
  | [] => none
  | m :: l => if z = ((m : Nat) : Int) then f m else avz z f l
def aA3 (R : aaQ) : Itm → Itm
  | .ob id c => match Nat.ble 1000000 id with
    | true => match get R (Nat.sub id 1000000) with
      | some (.ptr j _) => .ob j c
      | some (.ifc _ (.ptr j _)) => .ob j c
      | _ => .ob id c
    | false => .ob id c
  | it => it
def axF (R : aaQ) : List Itm → List Itm
  | [] => []
  | it :: l => aA3 R it :: axF R l
def aAo (R : aaQ) : Hint → Hint
  | .loop items fuel ex => .loop (axF R items) fuel ex
  | .loopR items fuel ex => .loopR (axF R items) fuel ex
  | h => h
def ayc (R : aaQ) : List Itm → Bool
  | [] => true
  | .cx id _ :: l => match get R 0 with
    | some (.ptr j _) => Nat.beq j id && ayc R l
    | _ => false
  | _ :: l => ayc R l
def aA6 (n : Nat) (Z : S.kt.H) (R : aaQ) (H : S.kt.H) : Hint → Bool
  | .loop items _ _ => ayc R items && (itA S n Z items R H).isSome
  | .loopR items _ _ => ayc R items && (itA S n Z items R H).isSome
  | .cut items fz => ayc R items && (match itA S n Z items R H with
    | some (_, Hr) => Hr.all fun p => match p.2 with
      | .cells .. => fz.any (Nat.beq p.1)
      | .row .. => fz.any (Nat.beq p.1)
      | _ => true
    | none => false)
  | .cutR items fz => ayc R items && (match itA S n Z items R H with
    | some (_, Hr) => Hr.all fun p => match p.2 with
      | .cells .. => fz.any (Nat.beq p.1)
      | .row .. => fz.any (Nat.beq p.1)
      | _ => true
    | none => false)
  | _ => true
def aAR : List (Nat × Hint) → Nat → List Hint
  | [], _ => []
  | p :: l, id => match Nat.beq p.1 id with
    | true => p.2 :: aAR l id
    | false => aAR l id
def aAZ (t : Hint → Bool) : List Hint → Option Hint
  | [] => none
  | h :: l => match t h with
    | true => some h
    | false => aAZ t l
def azk (hs : List (Nat × Hint)) (n : Nat) (Z : S.kt.H) (R : aaQ) (H : S.kt.H) (id : Nat) : Option Hint := match aAR hs id with
  | [] => none
  | [h] => some h
  | l => aAZ (aA6 S n Z R H) l
def aAn (hs : List (Nat × Hint)) (n : Nat) (Z : S.kt.H) (R : aaQ) (H : S.kt.H) (id : Nat) : Option Hint := match azk S hs n Z R H id with
  | some h => some (aAo R h)
  | none => none
def ax6 (hs : List (Nat × Hint)) (id : Nat) (H : S.kt.H) : S.kt.H := match get hs id with
  | some .close => azT S.kt H
  | _ => H
noncomputable def ev : Code → (α : Type) → (C : aaQ) → (Z : S.kt.H) → aaQ → Nat → S.kt.H → Kt S.kt α → (Nat → Kt S.kt α) → Kt S.kt α → Option α
  | .skip, _, _, _, R, n, H, kn, _, _ => kn R n H
  | .region id ops d, _, C, Z, R, n, H, kn, _, _ => match d with
    | false => rtE S.kt P call ops nt C Z ops.toList R n (ax6 S hs id H) kn
    | true => asI ops.toList 0 fun L => match okM ops L with
      | true => atE S.kt P call ops nt C Z L ops.size 0 [] R n (ax6 S hs id H) kn
      | false => none
  | .seq x y, α, C, Z, R, n, H, kn, ke, kr => match (agh y).bind (azk S hs n Z (R ++ C) H) with
    | some (.cut items fz) => match Nat.ble (aqk (adv (agG x) R ++ C)) n && Nat.ble (adY ((ahU fz H).1 ++ Z)) n with
      | true => (ev x (apc S items) (adv (agG x) R ++ C) ((ahU fz H).1 ++ Z) (auQ (agG x) R) n ((ahU fz H).2 ++ lkH (ahU fz H).1) (itF S n ((ahU fz H).1 ++ Z) items some) (fun _ _ _ _ => none) (fun _ _ _ => none)).bind fun z =>
        ev y α C Z ((itB S items z n).1 ++ adv (agG x) R) (itB S items z n).2.2 ((itB S items z n).2.1 ++ (ahU fz H).1) kn ke kr
      | false => none
    | some (.cutR items fz) => match Nat.ble (aqk (adv (agG x) R ++ C)) n && Nat.ble (adY ((ahU fz H).1 ++ Z)) n with
      | true => (ev x (apc S items ⊕ α) (adv (agG x) R ++ C) ((ahU fz H).1 ++ Z) (auQ (agG x) R) n ((ahU fz H).2 ++ lkH (ahU fz H).1) (itF S n ((ahU fz H).1 ++ Z) items (fun z => some (.inl z))) (fun j R' n' H' => (ke j (R' ++ adv (agG x) R) n' (H' ++ (ahU fz H).1)).map .inr) (fun R' n' H' => (kr (R' ++ adv (agG x) R) n' (H' ++ (ahU fz H).1)).map .inr)).bind fun z => match z with
        | .inl z => ev y α C Z ((itB S items z n).1 ++ adv (agG x) R) (itB S items z n).2.2 ((itB S items z n).2.1 ++ (ahU fz H).1) kn ke kr
        | .inr o => some o
      | false => none
    | _ => ev x α C Z R n H (fun R n H => ev y α C Z R n H kn ke kr) ke kr
  | .cond c x y, α, C, Z, R, n, H, kn, ke, kr => match evO (R ++ C) c with
    | some (.t b) => match b with
      | true => ev x α C Z R n H kn ke kr
      | false => ev y α C Z R n H kn ke kr
    | some (.p Q d) => @ite _ Q d (ev x α C Z R n H kn ke kr) (ev y α C Z R n H kn ke kr)
    | some (.b b) => if b = true then ev x α C Z R n H kn ke kr else ev y α C Z R n H kn ke kr
    | _ => none
  | .block id c, α, C, Z, R, n, H, kn, ke, kr => ev c α C Z R n H kn (fun j => match Nat.beq j id with | true => kn | false => ke j) kr
  | .loop c, α, C, Z, R, n, H, _, ke, kr => match (agh c).bind (aAn S hs n Z (R ++ C) H) with
    | some (.loopR items fuel ex) => match itA S n Z items R H with
      | some (x0, Hr) => match Nat.ble (aqk (adv (agG c) R ++ C)) n && Nat.ble (adY (Hr ++ Z)) n with
        | true => (lpF (fun self x => ev c (apc S items ⊕ α) (adv (agG c) R ++ C) (Hr ++ Z) (itB S items x n).1 (itB S items x n).2.2 ((itB S items x n).2.1 ++ lkH Hr) (itF S n (Hr ++ Z) items self)
            (fun j => match Nat.beq j ex with | true => itF S n (Hr ++ Z) items (fun z => some (.inl z)) | false => fun R' n' H' => (ke j (R' ++ adv (agG c) R) n' (H' ++ Hr)).map .inr) (fun R' n' H' => (kr (R' ++ adv (agG c) R) n' (H' ++ Hr)).map .inr)) fuel x0).bind fun z => match z with
          | .inl z => ke ex ((itB S items z n).1 ++ adv (agG c) R) (itB S items z n).2.2 ((itB S items z n).2.1 ++ Hr)
          | .inr o => some o
        | false => none
      | none => none
    | some (.loop items fuel ex) => match itA S n Z items R H with
      | some (x0, Hr) => match Nat.ble (aqk (adv (agG c) R ++ C)) n && Nat.ble (adY (Hr ++ Z)) n with
        | true => (lpF (fun self x => ev c (apc S items) (adv (agG c) R ++ C) (Hr ++ Z) (itB S items x n).1 (itB S items x n).2.2 ((itB S items x n).2.1 ++ lkH Hr) (itF S n (Hr ++ Z) items self)
            (fun j => match Nat.beq j ex with | true => itF S n (Hr ++ Z) items some | false => fun _ _ _ => none) (fun _ _ _ => none)) fuel x0).bind fun z =>
          ke ex ((itB S items z n).1 ++ adv (agG c) R) (itB S items z n).2.2 ((itB S items z n).2.1 ++ Hr)
        | false => none
      | none => none
    | some (.unroll k) => awr S (fun R n H kn => ev c α C Z R n H kn ke kr) k R n H
    | some (.spl t vals k) => match get R t with
      | some (.i kk z) => avz z (fun m => awr S (fun R n H kn => ev c α C Z R n H kn ke kr) k ((t, .l kk ((m : Nat) : Int)) :: del R t) n H) vals
      | _ => none
    | _ => none
  | .exit id, _, _, _, R, n, H, _, ke, _ => ke id R n H
  | .ret, _, _, _, R, n, H, _, _, kr => kr R n H
  | _, _, _, _, _, _, _, _, _, _ => none
end
theorem aq5 {α : Type} {z : Int} {f : Nat → Option α} {out : α} : ∀ {l : List Nat}, avz z f l = some out → ∃ m : Nat, z = ((m : Nat) : Int) ∧ f m = some out
  | [], h => by cases h
  | m :: l, h => by
    unfold avz at h
    split at h
    · rename_i e; exact ⟨m, e, h⟩
    · exact aq5 h
section
variable {S : Shp} {P : Program} {call : aim S.kt} {hs : List (Nat × Hint)} {nt B : Nat} {W : World} {F : aaf}
theorem auK {ρ : Env} {R C : aaQ} {t : Nat} {kk : IntKind} {z : Int} {m : Nat} {a : Act} (hg : get R t = some (.i kk z)) (hz : z = ((m : Nat) : Int)) (r : Regs nt a (dR ρ (R ++ C))) : Regs nt a (dR ρ (((t, .l kk ((m : Nat) : Int)) :: del R t) ++ C)) := by
  refine ⟨r.size, r.defers, fun p hp => ?_⟩
  obtain ⟨q, hq, rfl⟩ := List.mem_map.1 hp
  rcases List.mem_append.1 hq with h1 | h1
  · rcases List.mem_cons.1 h1 with e1 | e1
    · subst e1
      have := r.has _ (ah1 (ρ := ρ) (anA hg))
      rw [hz] at this
      exact this
    · exact r.has _ (List.mem_map.2 ⟨q, List.mem_append_left _ (agi e1).1, rfl⟩)
  · exact r.has _ (List.mem_map.2 ⟨q, List.mem_append_right _ h1, rfl⟩)
theorem ana {ρ : Env} {R C : aaQ} {a : Act} (h1 : ∀ p ∈ dR ρ R, a.tmps[p.1]? = some p.2) (h2 : Regs nt a (dR ρ C)) : Regs nt a (dR ρ (R ++ C)) := ⟨h2.size, h2.defers, fun p hp => by
  unfold dR at hp; rw [List.map_append] at hp
  exact (List.mem_append.1 hp).elim (h1 p) (h2.has p)⟩
theorem av6 {ρ : Env} {R C : aaQ} {a : Act} (h : Regs nt a (dR ρ (R ++ C))) : Regs nt a (dR ρ C) := h.sub fun p hp => by unfold dR; rw [List.map_append]; exact List.mem_append_right _ hp
theorem aoq {ρ : Env} {R C : aaQ} {a : Act} (h : Regs nt a (dR ρ (R ++ C))) : Regs nt a (dR ρ R) := h.sub fun p hp => by unfold dR; rw [List.map_append]; exact List.mem_append_left _ hp
theorem alC {l : List Nat} {p : Nat × V} : ∀ {R : aaQ}, p ∈ adv l R → p ∈ R
  | [], h => by cases h
  | (t, v) :: R, h => by
    unfold adv at h
    split at h
    · exact List.mem_cons_of_mem _ (alC h)
    · exact (List.mem_cons.1 h).elim (fun e => by subst e; exact List.mem_cons_self ..) (fun h => List.mem_cons_of_mem _ (alC h))
theorem am4 {l : List Nat} {p : Nat × V} : ∀ {R : aaQ}, p ∈ auQ l R → p ∈ R
  | [], h => by cases h
  | (t, v) :: R, h => by
    unfold auQ at h
    split at h
    · exact (List.mem_cons.1 h).elim (fun e => by subst e; exact List.mem_cons_self ..) (fun h => List.mem_cons_of_mem _ (am4 h))
    · exact List.mem_cons_of_mem _ (am4 h)
theorem alg {ρ : Env} {l : List Nat} {R C : aaQ} {a : Act} (h : Regs nt a (dR ρ (R ++ C))) : Regs nt a (dR ρ (adv l R ++ C)) := ana (fun p hp => by
  obtain ⟨q, hq, rfl⟩ := List.mem_map.1 hp
  exact (aoq h).has _ (List.mem_map.2 ⟨q, alC hq, rfl⟩)) (av6 h)
theorem aqB {ρ : Env} {l : List Nat} {R C : aaQ} {a : Act} (h : Regs nt a (dR ρ (R ++ C))) : Regs nt a (dR ρ (auQ l R ++ (adv l R ++ C))) := ana (fun p hp => by
  obtain ⟨q, hq, rfl⟩ := List.mem_map.1 hp
  exact (aoq h).has _ (List.mem_map.2 ⟨q, am4 hq, rfl⟩)) (alg h)
theorem air {ρ : Env} {l : List Nat} : ∀ {H : S.kt.H}, (dH S.kt ρ H).Perm (dH S.kt ρ (ahU l H).2 ++ dH S.kt ρ (ahU l H).1)
  | [] => .refl _
  | (t, v) :: H => by
    unfold ahU
    split
    · exact ((air (H := H)).cons _).trans (List.perm_middle).symm
    · exact (air (H := H)).cons _
theorem anx {n : Nat} {ρ0 ρ1 : Env} {items : List Itm} {x : apc S items} {C : aaQ} {Z : S.kt.H} {a : Act} {w : World} (h0 : aaw n ρ0 ρ1) (ok : amF n items = true) (hC : aqk C ≤ n) (hZ : adY Z ≤ n) (s : Sat B w (IS S ρ0 a items x ++ tl S.kt Z F ρ1)) (r : Regs nt a (dR ρ1 C)) (hb : Below B W w) (hl : B ≤ w.heap.size) :
    ∃ ρ', aaw n ρ0 ρ' ∧ n ≤ (itB S items x n).2.2 ∧ Sta nt B W (dR ρ' ((itB S items x n).1 ++ C)) (dS S.kt ρ' Z (itB S items x n).2.1 F) a w := by
  obtain ⟨ρ2, a2, n2, r2, s2⟩ := alF (l := items) (n := n) (X := tl S.kt Z F) ok (Nat.le_refl _) h0 (fun ρ ρ' ha => ab7 hZ ha) s
  exact ⟨ρ2, h0.trans a2 (Nat.le_refl _), n2, ⟨ana r2 (by rw [← abq a2 C hC]; exact r), hb, hl, s2⟩⟩
theorem ajT {n : Nat} {ρ0 ρ1 : Env} {items : List Itm} {x : apc S items} {C R : aaQ} {Z H H' : S.kt.H} {a : Act} {w : World} (h : itA S n Z items R H = some (x, H')) (h0 : aaw n ρ0 ρ1) (hC : aqk C ≤ n) (hZ : adY Z ≤ n) (s : Sta nt B W (dR ρ1 (R ++ C)) (dS S.kt ρ1 Z H F) a w) :
    ∃ ρ', aaw n ρ0 ρ' ∧ n ≤ (itB S items x n).2.2 ∧ Sta nt B W (dR ρ' ((itB S items x n).1 ++ C)) (dS S.kt ρ' Z (itB S items x n).2.1 F) a w := by
  obtain ⟨ok, s1⟩ := ati (nt := nt) (a := a) h0 h (aoq s.regs) (X := [F]) s.sat
  have s2 : Sat B w (dH S.kt ρ1 H' ++ (IS S ρ0 a items x ++ (dH S.kt ρ1 Z ++ [F]))) := s1.perm (ab5 _ _ _)
  exact anx h0 ok hC hZ (s2.imp fun _ => aeQ) (av6 s.regs) s.below s.lo
theorem aml {ρ : Env} {R R' C : aaQ} {Z H H' : S.kt.H} {a : Act} {w : World} (s : Sta nt B W (dR ρ (R' ++ (R ++ C))) (dS S.kt ρ (H ++ Z) H' F) a w) : Sta nt B W (dR ρ ((R' ++ R) ++ C)) (dS S.kt ρ Z (H' ++ H) F) a w := ⟨by rw [List.append_assoc]; exact s.regs, s.below, s.lo, s.sat.perm (by
  show (dH S.kt ρ H' ++ (dH S.kt ρ (H ++ Z) ++ [F])).Perm (dH S.kt ρ (H' ++ H) ++ (dH S.kt ρ Z ++ [F]))
  rw [dHa, dHa]; exact aar fun f g h1 h2 h3 => by simp only [h1, h2, h3]; omega)⟩
theorem anv {α β : Type} {o : Option β} {z : α ⊕ β} (h : o.map Sum.inr = some z) : ∃ y, o = some y ∧ z = .inr y := by
  cases o with
  | none => cases h
  | some y => exact ⟨y, rfl, (Option.some.inj h).symm⟩
theorem ahA {n : Nat} {Z : S.kt.H} {items : List Itm} {β : Type} {k : apc S items → Option β} {R : aaQ} {m : Nat} {H : S.kt.H} {z : β} (h : itF S n Z items k R m H = some z) : ∃ x H', itA S n Z items R H = some (x, H') ∧ k x = some z := by
  unfold itF at h
  split at h
  · rename_i x H' hx; exact ⟨x, H', hx, h⟩
  · cases h
theorem aag {α β : Type} {x : Option α} {f : α → Option β} {o : β} (h : x.bind f = some o) : ∃ z, x = some z ∧ f z = some o := by
  cases x with
  | none => cases h
  | some z => exact ⟨z, rfl, h⟩
theorem atM {ρ : Env} {w : World} {X : List aaf} {id : Nat} {H : S.kt.H} (s : Sat B w (dH S.kt ρ H ++ X)) : Sat B w (dH S.kt ρ (ax6 S hs id H) ++ X) := by
  unfold ax6
  split
  · exact anK s
  · exact s
theorem agF (hm : P.follows .mixedOrders = true) (hc : ah3 S.kt P B W call) : ∀ (c : Code) {α : Type} {out : α} {C : aaQ} {Z : S.kt.H} {R : aaQ} {n : Nat} {H : S.kt.H} {kn : Kt S.kt α} {ke : Nat → Kt S.kt α} {kr : Kt S.kt α} {Q : Exit → Act → World → Prop} {ρ : Env},
    ev S P call hs nt c α C Z R n H kn ke kr = some out → KOk S.kt Q nt B W C Z F out .normal ρ n kn → (∀ j, KOk S.kt Q nt B W C Z F out (.exit j) ρ n (ke j)) → KOk S.kt Q nt B W C Z F out .ret ρ n kr →
    CT none P Q nt B W c (dR ρ (R ++ C)) (dS S.kt ρ Z H F)
  | .skip, α, out, C, Z, R, n, H, kn, ke, kr, Q, ρ, h, hn, _, _ => ax3 (hn _ _ _ _ (aaw.refl _ _) (Nat.le_refl _) h)
  | .region id ops d, α, out, C, Z, R, n, H, kn, ke, kr, Q, ρ, h, hn, _, _ => by
    cases d with
    | false =>
      have := atI (id := id) (asv (r := none) (ops := ops) (Q := Q) hc (show rtE S.kt P call ops nt C Z ops.toList R n (ax6 S hs id H) kn = some out from h) hn)
      exact fun a w s => this a w ⟨s.regs, s.below, s.lo, atM s.sat⟩
    | true =>
      intro a w s
      have h1 : (Code.region id ops true).wpIn (rf none) 0 P (NP Q) a w := by
        refine wpIn_region_any hm ?_
        have s0 : Sta nt B W (dR ρ (R ++ C)) (dS S.kt ρ Z (ax6 S hs id H) F) a w := ⟨s.regs, s.below, s.lo, atM s.sat⟩
        have s' := (avR s0.cls).st s0.regs
        have h0 : (asI ops.toList 0 fun L => match okM ops L with
          | true => atE S.kt P call ops nt C Z L ops.size 0 [] R n (ax6 S hs id H) kn
          | false => none) = some out := h
        rw [aqJ] at h0
        split at h0
        · rename_i hok
          exact arm _ _ _ _ (ajj rfl hok (Ob := fun _ _ _ => True) hc RelM.none ap5 (fun _ h => by cases h) h0 hn (fun _ _ => trivial) (fun _ h => by cases h) (fun _ _ _ _ => trivial) _ _ s')
        · cases h0
      exact wpIn_mono h1 fun e a' w' hq => by cases e <;> first | exact hq | exact hq.elim
  | .seq x y, α, out, C, Z, R, n, H, kn, ke, kr, Q, ρ, h, hn, he, hr => by
    unfold ev at h
    split at h
    · rename_i items fz _
      split at h
      · rename_i hB
        simp only [Bool.and_eq_true] at hB
        have hC := Nat.le_of_ble_eq_true hB.1
        have hZ := Nat.le_of_ble_eq_true hB.2
        obtain ⟨z, hz, h2⟩ := aag h
        refine atH fun a w s => ?_
        have s' : Sta nt B W (dR ρ (auQ (agG x) R ++ (adv (agG x) R ++ C))) (dS S.kt ρ ((ahU fz H).1 ++ Z) (ahU fz H).2 F) a w := ⟨aqB s.regs, s.below, s.lo, s.sat.perm (by
          show (dH S.kt ρ H ++ (dH S.kt ρ Z ++ [F])).Perm (dH S.kt ρ (ahU fz H).2 ++ (dH S.kt ρ ((ahU fz H).1 ++ Z) ++ [F]))
          rw [dHa]
          exact ((air (l := fz)).append_right _).trans (aar fun f g h1 h2 h3 => by simp only [h1, h2, h3]; omega))⟩
        refine agF hm hc x (out := z) (Q := Exit.then (y.wpIn (rf none) 0 P Q) Q) hz ?_ ?_ ?_ a w (aqr s')
        · intro ρ' R' n' H' ha hle hk a' w' s2
          obtain ⟨x', H'', hA, hx⟩ := ahA hk
          obtain rfl : x' = z := Option.some.inj hx
          obtain ⟨ρ2, a2, n2, s3⟩ := ajT hA ha hC hZ s2
          have s4 : Sta nt B W (dR ρ2 (((itB S items x' n).1 ++ adv (agG x) R) ++ C)) (dS S.kt ρ2 Z ((itB S items x' n).2.1 ++ (ahU fz H).1) F) a' w' := ⟨by rw [List.append_assoc]; exact s3.regs, s3.below, s3.lo, s3.sat.perm (by
            show (dH S.kt ρ2 (itB S items x' n).2.1 ++ (dH S.kt ρ2 ((ahU fz H).1 ++ Z) ++ [F])).Perm (dH S.kt ρ2 ((itB S items x' n).2.1 ++ (ahU fz H).1) ++ (dH S.kt ρ2 Z ++ [F]))
            rw [dHa, dHa]; exact aar fun f g h1 h2 h3 => by simp only [h1, h2, h3]; omega)⟩
          exact agF hm hc y h2 (hn.from a2 n2) (fun j => (he j).from a2 n2) (hr.from a2 n2) a' w' s4
        · exact fun j ρ' R' n' H' ha hle hk => by cases hk
        · exact fun ρ' R' n' H' ha hle hk => by cases hk
      · cases h
    · rename_i items fz _
      split at h
      · rename_i hB
        simp only [Bool.and_eq_true] at hB
        have hC := Nat.le_of_ble_eq_true hB.1
        have hZ := Nat.le_of_ble_eq_true hB.2
        obtain ⟨z, hz, h2⟩ := aag h
        refine atH fun a w s => ?_
        have s' : Sta nt B W (dR ρ (auQ (agG x) R ++ (adv (agG x) R ++ C))) (dS S.kt ρ ((ahU fz H).1 ++ Z) (ahU fz H).2 F) a w := ⟨aqB s.regs, s.below, s.lo, s.sat.perm (by
          show (dH S.kt ρ H ++ (dH S.kt ρ Z ++ [F])).Perm (dH S.kt ρ (ahU fz H).2 ++ (dH S.kt ρ ((ahU fz H).1 ++ Z) ++ [F]))
          rw [dHa]
          exact ((air (l := fz)).append_right _).trans (aar fun f g h1 h2 h3 => by simp only [h1, h2, h3]; omega))⟩
        refine agF hm hc x (out := z) (Q := Exit.then (y.wpIn (rf none) 0 P Q) Q) hz ?_ ?_ ?_ a w (aqr s')
        · intro ρ' R' n' H' ha hle hk a' w' s2
          obtain ⟨x', H'', hA, hx⟩ := ahA hk
          obtain rfl : .inl x' = z := Option.some.inj hx
          obtain ⟨ρ2, a2, n2, s3⟩ := ajT hA ha hC hZ s2
          exact agF hm hc y h2 (hn.from a2 n2) (fun j => (he j).from a2 n2) (hr.from a2 n2) a' w' (aml s3)
        · intro j ρ' R' n' H' ha hle hk a' w' s2
          obtain ⟨o, ho, rfl⟩ := anv hk
          obtain rfl : o = out := Option.some.inj h2
          exact akg (he j ρ' _ n' _ ha hle ho) a' w' (aml s2)
        · intro ρ' R' n' H' ha hle hk a' w' s2
          obtain ⟨o, ho, rfl⟩ := anv hk
          obtain rfl : o = out := Option.some.inj h2
          exact alM (hr ρ' _ n' _ ha hle ho) a' w' (aml s2)
      · cases h
    · refine atH (agF hm hc x (Q := Exit.then (y.wpIn (rf none) 0 P Q) Q) h ?_ ?_ ?_)
      · intro ρ' R' n' H' ha hle hk
        exact ax0 (agF hm hc y hk (hn.from ha hle) (fun j => (he j).from ha hle) (hr.from ha hle))
      · exact fun j ρ' R' n' H' ha hle hk => akg (he j ρ' R' n' H' ha hle hk)
      · exact fun ρ' R' n' H' ha hle hk => alM (hr ρ' R' n' H' ha hle hk)
  | .cond c x y, α, out, C, Z, R, n, H, kn, ke, kr, Q, ρ, h, hn, he, hr => by
    unfold ev at h
    split at h
    · rename_i b hb
      have hb' := aaG (ρ := ρ) hb
      cases b with
      | true => exact ax2 hb' (agF hm hc x h hn he hr)
      | false => exact avM hb' (agF hm hc y h hn he hr)
    · rename_i q d hb
      have hb' := aaG (ρ := ρ) hb
      refine @aAL _ _ _ _ _ _ _ _ _ _ _ q d hb' (fun hp => ?_) (fun hp => ?_)
      · rw [if_pos hp] at h; exact agF hm hc x h hn he hr
      · rw [if_neg hp] at h; exact agF hm hc y h hn he hr
    · rename_i b hb
      have hb' := aaG (ρ := ρ) hb
      refine azw hb' (fun hp => ?_) (fun hp => ?_)
      · rw [if_pos hp] at h; exact agF hm hc x h hn he hr
      · rw [if_neg (by rw [hp]; exact Bool.false_ne_true)] at h; exact agF hm hc y h hn he hr
    · cases h
  | .block id c, α, out, C, Z, R, n, H, kn, ke, kr, Q, ρ, h, hn, he, hr => by
    refine avN (agF hm hc c (Q := Exit.inBlock id Q) (show ev S P call hs nt c α C Z R n H kn (fun j => match Nat.beq j id with | true => kn | false => ke j) kr = some out from h) ?_ ?_ ?_)
    · exact fun ρ' R' n' H' ha hle hk => avF (hn ρ' R' n' H' ha hle hk)
    · intro j ρ' R' n' H' ha hle hk
      have hk' : (match Nat.beq j id with | true => kn | false => ke j) R' n' H' = some out := hk
      cases e : Nat.beq j id with
      | true =>
        rw [e] at hk'
        obtain rfl := Nat.eq_of_beq_eq_true e
        exact anG (hn ρ' R' n' H' ha hle hk')
      | false =>
        rw [e] at hk'
        exact anF (by rw [beq_eq_false_iff_ne]; intro hj; subst hj; have := Nat.beq_refl j; rw [e] at this; cases this) (he j ρ' R' n' H' ha hle hk')
    · exact fun ρ' R' n' H' ha hle hk => aoU (hr ρ' R' n' H' ha hle hk)
  | .exit id, α, out, C, Z, R, n, H, kn, ke, kr, Q, ρ, h, _, he, _ => ax4 (he id _ _ _ _ (aaw.refl _ _) (Nat.le_refl _) h)
  | .ret, α, out, C, Z, R, n, H, kn, ke, kr, Q, ρ, h, _, _, hr => azv (hr _ _ _ _ (aaw.refl _ _) (Nat.le_refl _) h)
  | .loop c, α, out, C, Z, R, n, H, kn, ke, kr, Q, ρ, h, hn, he, hr => by
    unfold ev at h
    split at h
    · rename_i items fuel ex _
      split at h
      · rename_i x0 Hr hx0
        split at h
        · rename_i hB
          simp only [Bool.and_eq_true] at hB
          have hC := Nat.le_of_ble_eq_true hB.1
          have hZ := Nat.le_of_ble_eq_true hB.2
          obtain ⟨z, hz, h2⟩ := aag h
          intro a w s
          obtain ⟨ok, s1⟩ := ati (nt := nt) (a := a) (aaw.refl n ρ) hx0 (aoq s.regs) (X := [F]) s.sat
          have s1' : Sat B w (IS S ρ a items x0 ++ tl S.kt (Hr ++ Z) F ρ) := by unfold tl; rw [dHa, List.append_assoc]; exact s1
          have J0 := anx (nt := nt) (aaw.refl n ρ) ok hC hZ s1' (alg (l := agG c) s.regs) s.below s.lo
          refine agH (fun k a w => ∃ x, lpF _ k x = some z ∧ ∃ ρ', aaw n ρ ρ' ∧ n ≤ (itB S items x n).2.2 ∧ Sta nt B W (dR ρ' ((itB S items x n).1 ++ (adv (agG c) R ++ C))) (dS S.kt ρ' (Hr ++ Z) (itB S items x n).2.1 F) a w) fuel ⟨x0, hz, J0⟩ ?_
          rintro m a' w' ⟨x, hx, ρ1, a1, n1, s2⟩
          cases m with
          | zero => cases hx
          | succ k =>
            refine agF hm hc c (out := z) (Q := Exit.then (fun a' w' => ∃ m', m' < k + 1 ∧ ∃ x, lpF _ m' x = some z ∧ ∃ ρ', aaw n ρ ρ' ∧ n ≤ (itB S items x n).2.2 ∧ Sta nt B W (dR ρ' ((itB S items x n).1 ++ (adv (agG c) R ++ C))) (dS S.kt ρ' (Hr ++ Z) (itB S items x n).2.1 F) a' w') Q) hx ?_ ?_ ?_ a' w' (aqr s2)
            · intro ρ2 R' n' H' ha hle hk a2 w2 s3
              obtain ⟨x', H'', hA, hx'⟩ := ahA hk
              exact ⟨k, Nat.lt_succ_self k, x', hx', ajT hA (a1.trans ha n1) hC hZ s3⟩
            · intro j ρ2 R' n' H' ha hle hk a2 w2 s3
              have hk' : (match Nat.beq j ex with | true => itF S n (Hr ++ Z) items (fun z => some (Sum.inl z)) | false => fun R' n' H' => (ke j (R' ++ adv (agG c) R) n' (H' ++ Hr)).map (Sum.inr : α → apc S items ⊕ α)) R' n' H' = some z := hk
              cases e : Nat.beq j ex with
              | true =>
                rw [e] at hk'
                obtain rfl := Nat.eq_of_beq_eq_true e
                obtain ⟨x', H'', hA, hx'⟩ := ahA hk'
                obtain rfl : .inl x' = z := Option.some.inj hx'
                obtain ⟨ρ3, a3, n3, s4⟩ := ajT hA (a1.trans ha n1) hC hZ s3
                exact he j ρ3 _ _ _ a3 n3 h2 a2 w2 (aml s4)
              | false =>
                rw [e] at hk'
                obtain ⟨o, ho, rfl⟩ := anv hk'
                obtain rfl : o = out := Option.some.inj h2
                exact he j ρ2 _ n' _ (a1.trans ha n1) (Nat.le_trans n1 hle) ho a2 w2 (aml s3)
            · intro ρ2 R' n' H' ha hle hk a2 w2 s3
              obtain ⟨o, ho, rfl⟩ := anv hk
              obtain rfl : o = out := Option.some.inj h2
              exact hr ρ2 _ n' _ (a1.trans ha n1) (Nat.le_trans n1 hle) ho a2 w2 (aml s3)
        · cases h
      · cases h
    · rename_i items fuel ex _
      split at h
      · rename_i x0 Hr hx0
        split at h
        · rename_i hB
          simp only [Bool.and_eq_true] at hB
          have hC := Nat.le_of_ble_eq_true hB.1
          have hZ := Nat.le_of_ble_eq_true hB.2
          obtain ⟨z, hz, h2⟩ := aag h
          intro a w s
          obtain ⟨ok, s1⟩ := ati (nt := nt) (a := a) (aaw.refl n ρ) hx0 (aoq s.regs) (X := [F]) s.sat
          have s1' : Sat B w (IS S ρ a items x0 ++ tl S.kt (Hr ++ Z) F ρ) := by unfold tl; rw [dHa, List.append_assoc]; exact s1
          have J0 := anx (nt := nt) (aaw.refl n ρ) ok hC hZ s1' (alg (l := agG c) s.regs) s.below s.lo
          refine agH (fun k a w => ∃ x, lpF _ k x = some z ∧ ∃ ρ', aaw n ρ ρ' ∧ n ≤ (itB S items x n).2.2 ∧ Sta nt B W (dR ρ' ((itB S items x n).1 ++ (adv (agG c) R ++ C))) (dS S.kt ρ' (Hr ++ Z) (itB S items x n).2.1 F) a w) fuel ⟨x0, hz, J0⟩ ?_
          rintro m a' w' ⟨x, hx, ρ1, a1, n1, s2⟩
          cases m with
          | zero => cases hx
          | succ k =>
            refine agF hm hc c (out := z) (Q := Exit.then (fun a' w' => ∃ m', m' < k + 1 ∧ ∃ x, lpF _ m' x = some z ∧ ∃ ρ', aaw n ρ ρ' ∧ n ≤ (itB S items x n).2.2 ∧ Sta nt B W (dR ρ' ((itB S items x n).1 ++ (adv (agG c) R ++ C))) (dS S.kt ρ' (Hr ++ Z) (itB S items x n).2.1 F) a' w') Q) hx ?_ ?_ ?_ a' w' (aqr s2)
            · intro ρ2 R' n' H' ha hle hk a2 w2 s3
              obtain ⟨x', H'', hA, hx'⟩ := ahA hk
              exact ⟨k, Nat.lt_succ_self k, x', hx', ajT hA (a1.trans ha n1) hC hZ s3⟩
            · intro j ρ2 R' n' H' ha hle hk a2 w2 s3
              have hk' : (match Nat.beq j ex with | true => itF S n (Hr ++ Z) items some | false => fun _ _ _ => none) R' n' H' = some z := hk
              cases e : Nat.beq j ex with
              | true =>
                rw [e] at hk'
                obtain rfl := Nat.eq_of_beq_eq_true e
                obtain ⟨x', H'', hA, hx'⟩ := ahA hk'
                obtain rfl : x' = z := Option.some.inj hx'
                obtain ⟨ρ3, a3, n3, s4⟩ := ajT hA (a1.trans ha n1) hC hZ s3
                refine he j ρ3 _ _ _ a3 n3 h2 a2 w2 ⟨by rw [List.append_assoc]; exact s4.regs, s4.below, s4.lo, s4.sat.perm ?_⟩
                show (dH S.kt ρ3 (itB S items x' n).2.1 ++ (dH S.kt ρ3 (Hr ++ Z) ++ [F])).Perm (dH S.kt ρ3 ((itB S items x' n).2.1 ++ Hr) ++ (dH S.kt ρ3 Z ++ [F]))
                rw [dHa, dHa]; exact aar fun f g h1 h2 h3 => by simp only [h1, h2, h3]; omega
              | false =>
                rw [e] at hk'
                cases hk'
            · exact fun ρ2 R' n' H' ha hle hk => by cases hk
        · cases h
      · cases h
    · rename_i k _
      intro a w s
      refine wpIn_loop_rounds k ?_
      suffices key : ∀ (k : Nat) {R : aaQ} {n : Nat} {H : S.kt.H} {ρ : Env} {a : Act} {w : World}, awr S (fun R n H kn => ev S P call hs nt c α C Z R n H kn ke kr) k R n H = some out → (∀ j, KOk S.kt Q nt B W C Z F out (.exit j) ρ n (ke j)) → KOk S.kt Q nt B W C Z F out .ret ρ n kr →
          Sta nt B W (dR ρ (R ++ C)) (dS S.kt ρ Z H F) a w → Code.roundsIn (rf none) 0 P c Q k a w from key k h he hr s
      intro k
      induction k with
      | zero => intro R n H ρ a w h _ _ _; cases h
      | succ k ih =>
        intro R n H ρ a w h he hr s
        rw [roundsIn_succ]
        refine agF hm hc c (Q := Exit.then (Code.roundsIn (rf none) 0 P c Q k) Q) (show ev S P call hs nt c α C Z R n H (awr S (fun R n H kn => ev S P call hs nt c α C Z R n H kn ke kr) k) ke kr = some out from h) ?_ ?_ ?_ a w s
        · exact fun ρ' R' n' H' ha hle hk a' w' s' => ih hk (fun j => (he j).from ha hle) (hr.from ha hle) s'
        · exact fun j ρ' R' n' H' ha hle hk a' w' s' => he j ρ' R' n' H' ha hle hk a' w' s'
        · exact fun ρ' R' n' H' ha hle hk a' w' s' => hr ρ' R' n' H' ha hle hk a' w' s'
    · rename_i t vals k _
      split at h
      · rename_i kk z hgt
        obtain ⟨m, hz, h⟩ := aq5 h
        intro a w s
        refine wpIn_loop_rounds k ?_
        suffices key : ∀ (k : Nat) {R : aaQ} {n : Nat} {H : S.kt.H} {ρ : Env} {a : Act} {w : World}, awr S (fun R n H kn => ev S P call hs nt c α C Z R n H kn ke kr) k R n H = some out → (∀ j, KOk S.kt Q nt B W C Z F out (.exit j) ρ n (ke j)) → KOk S.kt Q nt B W C Z F out .ret ρ n kr →
            Sta nt B W (dR ρ (R ++ C)) (dS S.kt ρ Z H F) a w → Code.roundsIn (rf none) 0 P c Q k a w from key k h he hr ⟨auK hgt hz s.regs, s.below, s.lo, s.sat⟩
        intro k
        induction k with
        | zero => intro R n H ρ a w h _ _ _; cases h
        | succ k ih =>
          intro R n H ρ a w h he hr s
          rw [roundsIn_succ]
          refine agF hm hc c (Q := Exit.then (Code.roundsIn (rf none) 0 P c Q k) Q) (show ev S P call hs nt c α C Z R n H (awr S (fun R n H kn => ev S P call hs nt c α C Z R n H kn ke kr) k) ke kr = some out from h) ?_ ?_ ?_ a w s
          · exact fun ρ' R' n' H' ha hle hk a' w' s' => ih hk (fun j => (he j).from ha hle) (hr.from ha hle) s'
          · exact fun j ρ' R' n' H' ha hle hk a' w' s' => he j ρ' R' n' H' ha hle hk a' w' s'
          · exact fun ρ' R' n' H' ha hle hk a' w' s' => hr ρ' R' n' H' ha hle hk a' w' s'
      · cases h
    · cases h
  | .rangeFunc .., _, _, _, _, _, _, _, _, _, _, _, _, h, _, _, _ => by cases h
  | .scope _, _, _, _, _, _, _, _, _, _, _, _, _, h, _, _, _ => by cases h
  | .label _, _, _, _, _, _, _, _, _, _, _, _, _, h, _, _, _ => by cases h
  | .goto _, _, _, _, _, _, _, _, _, _, _, _, _, h, _, _, _ => by cases h
  | .refuse _, _, _, _, _, _, _, _, _, _, _, _, _, h, _, _, _ => by cases h
end
section
variable {K : KT} {P : Program} {nt B : Nat}
theorem am8 {R : aaQ} {H : KT.H K} {ρ : Env} {a : Act} {w : World} {X : List aaf} (r : Regs nt a (dR ρ R)) (s : Sat B w (dH K ρ H ++ X)) : ∀ {rs : List ResultVar} {l : List V}, av5 K P R H rs = some l →
    (rs.mapM (m := Sem) fun | .tmp t => pure (a.tmps.getD t undef) | .cell ad t => do loadVar t (← asAddr (a.tmps.getD ad undef))).run P w = .ok (aak ρ l) w
  | [], l, h => by cases h; rfl
  | .tmp t :: rs, l, h => by
    unfold av5 at h
    split at h
    · rename_i v hv
      split at h
      · rename_i vs hvs
        cases h
        rw [List.mapM_cons]
        have := r.has _ (ah1 (ρ := ρ) hv)
        rw [aaa (a := aav ρ v) (w' := w) (by simp [Array.getD_eq_getD_getElem?, this, pure]), aaa (am8 r s hvs)]
        rfl
      · cases h
    · cases h
  | .cell t T :: rs, l, h => by
    unfold av5 at h
    split at h
    · rename_i u hu
      split at h
      · rename_i v hv
        split at h
        · rename_i vs hvs
          cases h
          rw [List.mapM_cons]
          have hreg := r.has _ (ah1 (ρ := ρ) hu)
          have hl : (do loadVar T (← asAddr (a.tmps.getD t undef)) : Sem Value).run P w = .ok (aav ρ v) w := by
            unfold ldV at hv
            split at hv
            · rename_i id o
              simp only [aav] at hreg
              have e : a.tmps.getD t undef = .pointer (some ⟨(ρ.p id).1, (ρ.p id).2 + o, none⟩) := by simp [Array.getD_eq_getD_getElem?, hreg]
              rw [e]
              rw [aaa (a := (⟨(ρ.p id).1, (ρ.p id).2 + o, none⟩ : Addr)) (w' := w) rfl]
              split at hv
              · rename_i hT
                exact af9 (us := [aav ρ v]) hT rfl (fun j u hj => by
                  cases j with
                  | zero => simp at hj; subst hj; exact aqE hv s
                  | succ j => simp at hj) rfl
              · rename_i k hT
                simp only [Option.map_eq_some_iff] at hv
                obtain ⟨l, hl, rfl⟩ := hv
                obtain ⟨h1, h2⟩ := aqD hl s
                exact af9 hT (by rw [aaJ]; simpa using h1) h2 rfl
              · cases hv
            · cases hv
          rw [aaa hl, aaa (am8 r s hvs)]
          rfl
        · cases h
      · cases h
    · cases h
theorem aqj {ρ : Env} (l : List V) : aqi (aak ρ l) = aav ρ (awt l) := by
  match l with
  | [] => rfl
  | [v] => rfl
  | _ :: _ :: _ => rfl
theorem ald {fn : Func} {R : aaQ} {H : KT.H K} {ρ : Env} {a : Act} {w : World} {X : List aaf} {l : List V} (r : Regs nt a (dR ρ R)) (s : Sat B w (dH K ρ H ++ X)) (h : av5 K P R H fn.results.toList = some l) : (results fn a.tmps).run P w = .ok (aav ρ (awt l)) w := by
  unfold results
  have e : fn.results = fn.results.toList.toArray := by simp
  rw [e, ← aqj]
  simp only [List.mapM_toArray]
  rw [aaa (a := (aak ρ l).toArray) (w' := w) (by
    rw [map_eq_pure_bind]
    exact aaa (am8 r s h))]
  match l with
  | [] => rfl
  | [v] => rfl
  | _ :: _ :: _ => rfl
end
def aw9 : Nat → List V → aaQ
  | _, [] => []
  | i, v :: l => (i, v) :: aw9 (i + 1) l
section
variable (S : Shp) (P : Program)
noncomputable def evF (call : aim S.kt) (hs : List (Nat × Hint)) {α : Type} (fn : Func) (vs : List V) (n : Nat) (Z H : S.kt.H) (k : Nat → S.kt.H → V → Option α) : Option α :=
  match fn.body with
  | some c => match Nat.ble vs.length fn.ntmps with
    | true => ev S P call hs fn.ntmps c α [] Z (aw9 0 vs) n H
      (fun R n H => match av5 S.kt P R H fn.results.toList with | some l => k n H (awt l) | none => none) (fun _ _ _ _ => none)
      (fun R n H => match av5 S.kt P R H fn.results.toList with | some l => k n H (awt l) | none => none)
    | false => none
  | none => none
noncomputable def inl (tb : List (Nat × Func)) (hs : Nat → List (Nat × Hint)) (known : aim S.kt) : Nat → aim S.kt
  | 0 => known
  | m + 1 => fun α f vs n Z H k => match get tb f with
    | some fn => match Nat.blt f ae2 with
      | true => evF S P (inl tb hs known m) (hs f) fn vs n Z H k
      | false => none
    | none => known α f vs n Z H k
end
section
variable {S : Shp} {P : Program} {B : Nat} {W : World} {hs : List (Nat × Hint)}
theorem aor : ∀ (l : List V) (i : Nat) (ρ : Env) (p : Nat × Value), p ∈ dR ρ (aw9 i l) → i ≤ p.1 ∧ (aak ρ l)[p.1 - i]? = some p.2
  | [], _, _, _, h => by cases h
  | v :: l, i, ρ, p, h => by
    rcases List.mem_cons.1 h with e | e
    · subst e
      exact ⟨Nat.le_refl _, by simp [aak]⟩
    · obtain ⟨h1, h2⟩ := aor l (i + 1) ρ p e
      refine ⟨by omega, ?_⟩
      obtain ⟨m, hm⟩ : ∃ m, p.1 - i = m + 1 := ⟨p.1 - (i + 1), by omega⟩
      rw [hm, aak, List.getElem?_cons_succ, ← h2]
      congr 1; omega
theorem awi (hm : P.follows .mixedOrders = true) {call : aim S.kt} (hc : ah3 S.kt P B W call) {α : Type} {fid : FuncId} {fn : Func} (hf : P.funcs[fid]? = some fn) {vs : List V} {n : Nat} {Z H : S.kt.H} {k : Nat → S.kt.H → V → Option α} {out : α} (h : evF S P call hs fn vs n Z H k = some out) {F : aaf} {ρ : Env} {w : World}
    (hw : Cls B W (dS S.kt ρ Z H F) w) : Calls P fid (aak ρ vs).toArray w fun e w' => ∃ x : Nx S.kt, (aaw n ρ x.ρ ∧ n ≤ x.n ∧ k x.n x.H x.v = some out) ∧ e = .returned (aav x.ρ x.v) ∧ Cls B W (dS S.kt x.ρ Z x.H F) w' := by
  unfold evF at h
  split at h
  · rename_i c hb
    split at h
    · rename_i hle
      have hle' := Nat.le_of_ble_eq_true hle
      refine calls_of_wp hf hb (wpIn_wide (n := 0).1 ?_)
      have key := agF (nt := fn.ntmps) (B := B) (W := W) (F := F) hm hc c (Q := bodyPost P fn fun e w' => ∃ x : Nx S.kt, (aaw n ρ x.ρ ∧ n ≤ x.n ∧ k x.n x.H x.v = some out) ∧ e = .returned (aav x.ρ x.v) ∧ Cls B W (dS S.kt x.ρ Z x.H F) w') (ρ := ρ) h ?_ ?_ ?_
      · refine key _ w (hw.st ⟨by simp [aaJ]; omega, rfl, fun p hp => ?_⟩)
        rw [List.append_nil] at hp
        obtain ⟨_, h2⟩ := aor vs 0 ρ p hp
        rw [Nat.sub_zero] at h2
        have hlt := (List.getElem?_eq_some_iff.1 h2).1
        rw [Array.getElem?_append_left (by simpa using hlt)]
        simpa using h2
      · intro ρ' R' n' H' ha hn hk a w' s
        rw [List.append_nil] at s
        dsimp only at hk
        split at hk
        · rename_i l hl
          exact ⟨s.regs.defers, _, ald s.regs s.sat hl, ⟨ρ', n', H', awt l⟩, ⟨ha, hn, hk⟩, rfl, s.cls⟩
        · cases hk
      · exact fun j ρ' R' n' H' ha hn hk => by cases hk
      · intro ρ' R' n' H' ha hn hk a w' s
        rw [List.append_nil] at s
        dsimp only at hk
        split at hk
        · rename_i l hl
          exact bodyPost_ret (ald s.regs s.sat hl) s.regs.defers ⟨⟨ρ', n', H', awt l⟩, ⟨ha, hn, hk⟩, rfl, s.cls⟩
        · cases hk
    · cases h
  · cases h
theorem awg (hm : P.follows .mixedOrders = true) {tb : List (Nat × Func)} {hs : Nat → List (Nat × Hint)} (ht : ∀ p ∈ tb, P.funcs[p.1]? = some p.2) {known : aim S.kt} (hk : ah3 S.kt P B W known) : ∀ m, ah3 S.kt P B W (inl S P tb hs known m)
  | 0 => hk
  | m + 1 => fun α f vs n Z H k out h h1 h2 h3 F ρ w hw => by
    unfold inl at h
    split at h
    · rename_i fn hg
      split at h
      · rename_i hb
        rw [acu hb]
        exact awi hm (awg hm ht hk m) (ht _ (apY hg)) h hw
      · cases h
    · exact hk α f vs n Z H k out h h1 h2 h3 F ρ w hw
end
class Tb where
  tb : Nat → Int
  rg : ∀ i, 0 ≤ tb i ∧ tb i ≤ 255
def aym [T : Tb] (B : Nat) (W : World) : Prop := 0 < B ∧ ∀ i : Nat, i < 64 → W.cell? ⟨0, i, none⟩ = some (.int .u8 (T.tb i))
inductive Pk where
  | sh (s : Sh)
  | val (c : Nat)
  | ref (c : Nat)
  | mch
  | lent (c : Nat)
inductive Rk where
  | sh (s : Sh)
  | val (c : Nat)
section
variable (S : Shp)
def pkT : Pk → Type
  | .sh s => shT S.T S.M s
  | .val c => S.T c
  | .ref c => S.T c
  | .mch => S.M
  | .lent c => List (S.T c)
def al6 : List Pk → Type
  | [] => Unit
  | p :: l => pkT S p × al6 l
def rkT : Rk → Type
  | .sh s => shT S.T S.M s
  | .val c => S.T c
def al9 : List Rk → Type
  | [] => Unit
  | p :: l => rkT S p × al9 l
def aj4 : List Pk → Type
  | [] => Unit
  | .ref c :: l => S.T c × aj4 l
  | .mch :: l => S.M × aj4 l
  | .lent c :: l => List (S.T c) × aj4 l
  | .sh _ :: l => aj4 l
  | .val _ :: l => aj4 l
def auv (c : Nat) (x : S.T c) (v : Value) : aaf := fun h => ∃ us : List Value, v = .agg us.toArray ∧ abk (fsS (pcS S.kt) (S.kt.vw c x) us) h
def al7 : (ps : List Pk) → al6 S ps → List Value → List aaf
  | [], _, [] => []
  | .sh s :: ps, x, v :: vs => pcS S.kt (vw1 S.T S.M s x.1) v :: al7 ps x.2 vs
  | .val c :: ps, x, v :: vs => auv S c x.1 v :: al7 ps x.2 vs
  | .ref c :: ps, x, v :: vs => pcS S.kt (.own c x.1) v :: al7 ps x.2 vs
  | .mch :: ps, x, v :: vs => pcS S.kt (.mach x.1) v :: al7 ps x.2 vs
  | .lent c :: ps, x, v :: vs => pcS S.kt (.row c x.1) v :: al7 ps x.2 vs
  | _, _, _ => [fun _ => False]
def afr : (ps : List Pk) → aj4 S ps → List Value → List aaf
  | [], _, _ => []
  | .sh _ :: ps, x, _ :: vs => afr ps x vs
  | .val _ :: ps, x, _ :: vs => afr ps x vs
  | .ref c :: ps, x, v :: vs => pcS S.kt (.own c x.1) v :: afr ps x.2 vs
  | .mch :: ps, x, v :: vs => pcS S.kt (.mach x.1) v :: afr ps x.2 vs
  | .lent c :: ps, x, v :: vs => pcS S.kt (.row c x.1) v :: afr ps x.2 vs
  | _ :: _, _, [] => []
def an4 : (rs : List Rk) → al9 S rs → List Value → List aaf
  | [], _, [] => []
  | .sh s :: rs, x, v :: vs => pcS S.kt (vw1 S.T S.M s x.1) v :: an4 rs x.2 vs
  | .val c :: rs, x, v :: vs => auv S c x.1 v :: an4 rs x.2 vs
  | _, _, _ => [fun _ => False]
def auh [Tb] (P : Program) (f : FuncId) (ps : List Pk) (rs : List Rk) (spec : al6 S ps → Option (al9 S rs × aj4 S ps)) : Prop :=
  ∀ x out, spec x = some out → ∀ B W, aym B W → ∀ vs F w, Cls B W (al7 S ps x vs ++ [F]) w → adM P f vs.toArray w fun e w' => ∃ us, e = .returned (aqi us) ∧ Cls B W (an4 S rs out.1 us ++ (afr S ps out.2 vs ++ [F])) w'
def cin : (ps : List Pk) → al6 S ps → Nat → List V × List (Nat × Ch S.T S.M) × Nat
  | [], _, n => ([], [], n)
  | .sh s :: ps, x, n => ((opF S.kt.vw n (.f (vw1 S.T S.M s x.1))).1 :: (cin ps x.2 (n + 1)).1, chL S n (opF S.kt.vw n (.f (vw1 S.T S.M s x.1))).2 ++ (cin ps x.2 (n + 1)).2.1, (cin ps x.2 (n + 1)).2.2)
  | .ref c :: ps, x, n => (.ptr n 0 :: (cin ps x.2 (n + 1)).1, (n, .cells ((S.kt.vw c x.1).map .f)) :: (cin ps x.2 (n + 1)).2.1, (cin ps x.2 (n + 1)).2.2)
  | .mch :: ps, x, n => (.mc n :: (cin ps x.2 (n + 1)).1, (n, .mach x.1) :: (cin ps x.2 (n + 1)).2.1, (cin ps x.2 (n + 1)).2.2)
  | .lent c :: ps, x, n => (.sl n :: (cin ps x.2 (n + 1)).1, (n, .row c x.1) :: (cin ps x.2 (n + 1)).2.1, (cin ps x.2 (n + 1)).2.2)
  | .val c :: ps, x, n => (.agg (opL S n (S.kt.vw c x.1)).1 :: (cin ps x.2 (n + S.kt.sz c)).1, (opL S n (S.kt.vw c x.1)).2 ++ (cin ps x.2 (n + S.kt.sz c)).2.1, (cin ps x.2 (n + S.kt.sz c)).2.2)
def ape : (rs : List Rk) → al9 S rs → Nat → List V × List (Nat × Ch S.T S.M) × Nat
  | [], _, n => ([], [], n)
  | .sh s :: rs, x, n => ((opF S.kt.vw n (.f (vw1 S.T S.M s x.1))).1 :: (ape rs x.2 (n + 1)).1, chL S n (opF S.kt.vw n (.f (vw1 S.T S.M s x.1))).2 ++ (ape rs x.2 (n + 1)).2.1, (ape rs x.2 (n + 1)).2.2)
  | .val c :: rs, x, n => (.agg (opL S n (S.kt.vw c x.1)).1 :: (ape rs x.2 (n + S.kt.sz c)).1, (opL S n (S.kt.vw c x.1)).2 ++ (ape rs x.2 (n + S.kt.sz c)).2.1, (ape rs x.2 (n + S.kt.sz c)).2.2)
end
section
variable {S : Shp} {B : Nat} {w : World}
theorem apw {c : Nat} {x : S.T c} {v : Value} {L : List aaf} (s : Sat B w (auv S c x v :: L)) : ∃ us : List Value, v = .agg us.toArray ∧ Sat B w (fsS (pcS S.kt) (S.kt.vw c x) us ++ L) := by
  obtain ⟨h, Hh, k1, k2, a, e, ⟨us, h1, h2⟩, hL⟩ := s
  exact ⟨us, h1, h, Hh, aal.2 ⟨k1, k2, a, e, h2, hL⟩⟩
theorem alU : ∀ {ps : List Pk} {x : al6 S ps} {n : Nat} {vs : List Value} {ρ : Env} {X : Env → List aaf}, (∀ ρ ρ', aaw n ρ ρ' → X ρ = X ρ') → Sat B w (al7 S ps x vs ++ X ρ) →
    ∃ ρ', aaw n ρ ρ' ∧ vs = aak ρ' (cin S ps x n).1 ∧ Sat B w (dH S.kt ρ' (cin S ps x n).2.1 ++ X ρ')
  | [], x, n, [], ρ, X, hX, s => ⟨ρ, aaw.refl _ _, rfl, s⟩
  | [], x, n, _ :: _, ρ, X, hX, s => aaB s
  | .sh s0 :: ps, x, n, [], ρ, X, hX, s => aaB s
  | .val c :: ps, x, n, [], ρ, X, hX, s => aaB s
  | .ref c :: ps, x, n, [], ρ, X, hX, s => aaB s
  | .mch :: ps, x, n, [], ρ, X, hX, s => aaB s
  | .lent c :: ps, x, n, [], ρ, X, hX, s => aaB s
  | .sh s0 :: ps, x, n, v :: vs, ρ, X, hX, s => by
    obtain ⟨ρ1, a1, e1, s1⟩ := alt (n := n) (f := vw1 S.T S.M s0 x.1) (Y := al7 S ps x.2 vs) hX s
    obtain ⟨ρ2, a2, e2, s2⟩ := alU (n := n + 1) (arK (f := vw1 S.T S.M s0 x.1) hX) s1
    have htop := (af5 (K := S.kt) (n := n) (f := .f (vw1 S.T S.M s0 x.1)) (Nat.zero_le _)).1
    refine ⟨ρ2, a1.trans a2 (Nat.le_succ n), ?_, ?_⟩
    · simp only [cin, aak]
      rw [e1, ← e2, aaV a2 _ htop]
    · simp only [cin, dHa]
      refine s2.perm ?_
      rw [List.append_assoc]
      exact ab5 _ _ _
  | .ref c :: ps, x, n, v :: vs, ρ, X, hX, s => by
    obtain ⟨ρ1, a1, e1, s1⟩ := alt (n := n) (f := .own c x.1) (Y := al7 S ps x.2 vs) hX s
    obtain ⟨ρ2, a2, e2, s2⟩ := alU (n := n + 1) (arK (f := .own c x.1) hX) s1
    have htop := (af5 (K := S.kt) (n := n) (f := .f (.own c x.1)) (Nat.zero_le _)).1
    refine ⟨ρ2, a1.trans a2 (Nat.le_succ n), ?_, ?_⟩
    · simp only [cin, aak]
      rw [e1, ← e2, aaV a2 _ htop]
      rfl
    · have : dH S.kt ρ2 (cin S (.ref c :: ps) x n).2.1 = dH S.kt ρ2 (chL S n (opF S.kt.vw n (.f (.own c x.1))).2) ++ dH S.kt ρ2 (cin S ps x.2 (n + 1)).2.1 := rfl
      rw [this]
      refine s2.perm ?_
      rw [List.append_assoc]
      exact ab5 _ _ _
  | .mch :: ps, x, n, v :: vs, ρ, X, hX, s => by
    obtain ⟨ρ1, a1, e1, s1⟩ := alt (n := n) (f := .mach x.1) (Y := al7 S ps x.2 vs) hX s
    obtain ⟨ρ2, a2, e2, s2⟩ := alU (n := n + 1) (arK (f := .mach x.1) hX) s1
    have htop := (af5 (K := S.kt) (n := n) (f := .f (.mach x.1)) (Nat.zero_le _)).1
    refine ⟨ρ2, a1.trans a2 (Nat.le_succ n), ?_, ?_⟩
    · simp only [cin, aak]
      rw [e1, ← e2, aaV a2 _ htop]
      rfl
    · have : dH S.kt ρ2 (cin S (.mch :: ps) x n).2.1 = dH S.kt ρ2 (chL S n (opF S.kt.vw n (.f (.mach x.1))).2) ++ dH S.kt ρ2 (cin S ps x.2 (n + 1)).2.1 := rfl
      rw [this]
      refine s2.perm ?_
      rw [List.append_assoc]
      exact ab5 _ _ _
  | .lent c :: ps, x, n, v :: vs, ρ, X, hX, s => by
    obtain ⟨ρ1, a1, e1, s1⟩ := alt (n := n) (f := .row c x.1) (Y := al7 S ps x.2 vs) hX s
    obtain ⟨ρ2, a2, e2, s2⟩ := alU (n := n + 1) (arK (f := .row c x.1) hX) s1
    have htop := (af5 (K := S.kt) (n := n) (f := .f (.row c x.1)) (Nat.zero_le _)).1
    refine ⟨ρ2, a1.trans a2 (Nat.le_succ n), ?_, ?_⟩
    · simp only [cin, aak]
      rw [e1, ← e2, aaV a2 _ htop]
      rfl
    · have : dH S.kt ρ2 (cin S (.lent c :: ps) x n).2.1 = dH S.kt ρ2 (chL S n (opF S.kt.vw n (.f (.row c x.1))).2) ++ dH S.kt ρ2 (cin S ps x.2 (n + 1)).2.1 := rfl
      rw [this]
      refine s2.perm ?_
      rw [List.append_assoc]
      exact ab5 _ _ _
  | .val c :: ps, x, n, v :: vs, ρ, X, hX, s => by
    obtain ⟨us, hv, s0⟩ := apw s
    obtain ⟨ρ1, a1, e1, s1⟩ := as4 (n := n) (l := S.kt.vw c x.1) (Y := al7 S ps x.2 vs) hX s0
    obtain ⟨ρ2, a2, e2, s2⟩ := alU (n := n + S.kt.sz c) (azm (S.kt.sz_ok c x.1) hX) s1
    refine ⟨ρ2, a1.trans a2 (Nat.le_add_right ..), ?_, ?_⟩
    · simp only [cin, aak, aav]
      rw [hv, e1, ← e2, (aiZ (a2.le (Nat.le_of_eq (congrArg (n + ·) (S.kt.sz_ok c x.1))))).1]
    · simp only [cin, dHa]
      refine s2.perm ?_
      rw [List.append_assoc]
      exact ab5 _ _ _
theorem ap3 : ∀ {rs : List Rk} {x : al9 S rs} {n : Nat} {vs : List Value} {ρ : Env} {X : Env → List aaf}, (∀ ρ ρ', aaw n ρ ρ' → X ρ = X ρ') → Sat B w (an4 S rs x vs ++ X ρ) →
    ∃ ρ', aaw n ρ ρ' ∧ vs = aak ρ' (ape S rs x n).1 ∧ Sat B w (dH S.kt ρ' (ape S rs x n).2.1 ++ X ρ')
  | [], x, n, [], ρ, X, hX, s => ⟨ρ, aaw.refl _ _, rfl, s⟩
  | [], x, n, _ :: _, ρ, X, hX, s => aaB s
  | .sh s0 :: ps, x, n, [], ρ, X, hX, s => aaB s
  | .val c :: ps, x, n, [], ρ, X, hX, s => aaB s
  | .sh s0 :: ps, x, n, v :: vs, ρ, X, hX, s => by
    obtain ⟨ρ1, a1, e1, s1⟩ := alt (n := n) (f := vw1 S.T S.M s0 x.1) (Y := an4 S ps x.2 vs) hX s
    obtain ⟨ρ2, a2, e2, s2⟩ := ap3 (n := n + 1) (arK (f := vw1 S.T S.M s0 x.1) hX) s1
    have htop := (af5 (K := S.kt) (n := n) (f := .f (vw1 S.T S.M s0 x.1)) (Nat.zero_le _)).1
    refine ⟨ρ2, a1.trans a2 (Nat.le_succ n), ?_, ?_⟩
    · simp only [ape, aak]
      rw [e1, ← e2, aaV a2 _ htop]
    · simp only [ape, dHa]
      refine s2.perm ?_
      rw [List.append_assoc]
      exact ab5 _ _ _
  | .val c :: ps, x, n, v :: vs, ρ, X, hX, s => by
    obtain ⟨us, hv, s0⟩ := apw s
    obtain ⟨ρ1, a1, e1, s1⟩ := as4 (n := n) (l := S.kt.vw c x.1) (Y := an4 S ps x.2 vs) hX s0
    obtain ⟨ρ2, a2, e2, s2⟩ := ap3 (n := n + S.kt.sz c) (azm (S.kt.sz_ok c x.1) hX) s1
    refine ⟨ρ2, a1.trans a2 (Nat.le_add_right ..), ?_, ?_⟩
    · simp only [ape, aak, aav]
      rw [hv, e1, ← e2, (aiZ (a2.le (Nat.le_of_eq (congrArg (n + ·) (S.kt.sz_ok c x.1))))).1]
    · simp only [ape, dHa]
      refine s2.perm ?_
      rw [List.append_assoc]
      exact ab5 _ _ _
end
section
variable (S : Shp)
def azX (H : S.kt.H) (c : Nat) (v : V) : Option (S.T c × S.kt.H) :=
  match v with
  | .agg l => match apg S.kt (asm S.kt) H (S.kt.vw c (S.kt.df c)) (l.map .v) with
    | some (fs, H') => match S.kt.bk c fs with
      | some x => some (x, H')
      | none => none
    | none => none
  | _ => none
def ayk : (rs : List Rk) → S.kt.H → List V → Option (al9 S rs × S.kt.H)
  | [], H, [] => some ((), H)
  | .sh s :: rs, H, v :: vs => match at7 S H s v with
    | some (x, H1) => match ayk rs H1 vs with
      | some (r, H2) => some ((x, r), H2)
      | none => none
    | none => none
  | .val c :: rs, H, v :: vs => match azX S H c v with
    | some (x, H1) => match ayk rs H1 vs with
      | some (r, H2) => some ((x, r), H2)
      | none => none
    | none => none
  | _, _, _ => none
def aur : (ps : List Pk) → Nat → S.kt.H → Option (aj4 S ps × S.kt.H)
  | [], _, H => some ((), H)
  | .sh _ :: ps, n, H => aur ps (n + 1) H
  | .val c :: ps, n, H => aur ps (n + S.kt.sz c) H
  | .ref c :: ps, n, H => match at7 S H (.own c) (.ptr n 0) with
    | some (x, H1) => match aur ps (n + 1) H1 with
      | some (r, H2) => some ((x, r), H2)
      | none => none
    | none => none
  | .mch :: ps, n, H => match at7 S H .mach (.mc n) with
    | some (x, H1) => match aur ps (n + 1) H1 with
      | some (r, H2) => some ((x, r), H2)
      | none => none
    | none => none
  | .lent c :: ps, n, H => match at7 S H (.row c) (.sl n) with
    | some (x, H1) => match aur ps (n + 1) H1 with
      | some (r, H2) => some ((x, r), H2)
      | none => none
    | none => none
def az8 : List Rk → V → Option (List V)
  | [_], v => some [v]
  | _, .tup l => match Nat.beq l.length 1 with
    | true => none
    | false => some l
  | _, _ => none
def ayf (ps : List Pk) (rs : List Rk) : Nat → S.kt.H → V → Option (al9 S rs × aj4 S ps) := fun _ H v =>
  match az8 rs v with
  | some l => match ayk S rs (azT S.kt H) l with
    | some (r, H1) => match aur S ps 0 H1 with
      | some (o, _) => some (r, o)
      | none => none
    | none => none
  | none => none
end
section
variable {S : Shp} {B : Nat} {w : World}
theorem at5 {H H' : S.kt.H} {c : Nat} {v : V} {x : S.T c} (h : azX S H c v = some (x, H')) {ρ : Env} {X : List aaf} (s : Sat B w (dH S.kt ρ H ++ X)) : Sat B w (auv S c x (aav ρ v) :: (dH S.kt ρ H' ++ X)) := by
  unfold azX at h
  split at h
  · rename_i l
    split at h
    · rename_i fs H1 hl
      split at h
      · rename_i y hy
        cases h
        have s1 := agp al3 hl (ρ := ρ) (X := X) (vs := aak ρ l) (s.imp fun k hk => agc hk)
        rw [← S.kt.bk_ok _ _ _ hy] at s1
        refine s1.imp fun k hk => ?_
        obtain ⟨k1, k2, a, e, g1, g2⟩ := aal.1 hk
        exact ⟨k1, k2, a, e, ⟨aak ρ l, rfl, g1⟩, g2⟩
      · cases h
    · cases h
  · cases h
theorem anV : ∀ {rs : List Rk} {H H' : S.kt.H} {vs : List V} {r : al9 S rs}, ayk S rs H vs = some (r, H') → ∀ {ρ : Env} {X : List aaf}, Sat B w (dH S.kt ρ H ++ X) → Sat B w (an4 S rs r (aak ρ vs) ++ (dH S.kt ρ H' ++ X))
  | [], H, H', [], r, h, ρ, X, s => by cases h; exact s
  | [], _, _, _ :: _, _, h, _, _, _ => by cases h
  | .sh s0 :: rs, H, H', [], r, h, _, _, _ => by cases h
  | .val c :: rs, H, H', [], r, h, _, _, _ => by cases h
  | .sh s0 :: rs, H, H', v :: vs, r, h, ρ, X, s => by
    unfold ayk at h
    split at h
    · rename_i x H1 h1
      split at h
      · rename_i r' H2 h2
        cases h
        have s1 := agq h1 s
        have s2 := anV h2 (X := pcS S.kt (vw1 S.T S.M s0 x) (aav ρ v) :: X) (s1.perm (List.perm_middle (l₁ := dH S.kt ρ H1)).symm)
        exact s2.perm (ahN _ _ _ _)
      · cases h
    · cases h
  | .val c :: rs, H, H', v :: vs, r, h, ρ, X, s => by
    unfold ayk at h
    split at h
    · rename_i x H1 h1
      split at h
      · rename_i r' H2 h2
        cases h
        have s1 := at5 h1 s
        have s2 := anV h2 (X := auv S c x (aav ρ v) :: X) (s1.perm (List.perm_middle (l₁ := dH S.kt ρ H1)).symm)
        exact s2.perm (ahN _ _ _ _)
      · cases h
    · cases h
def al4 (S : Shp) (ρ : Env) : List Pk → Nat → List Value → Prop
  | [], _, _ => True
  | .sh _ :: ps, n, _ :: vs => al4 S ρ ps (n + 1) vs
  | .val c :: ps, n, _ :: vs => al4 S ρ ps (n + S.kt.sz c) vs
  | .ref _ :: ps, n, v :: vs => v = aav ρ (.ptr n 0) ∧ al4 S ρ ps (n + 1) vs
  | .mch :: ps, n, v :: vs => v = aav ρ (.mc n) ∧ al4 S ρ ps (n + 1) vs
  | .lent _ :: ps, n, v :: vs => v = aav ρ (.sl n) ∧ al4 S ρ ps (n + 1) vs
  | _ :: _, _, [] => False
theorem ail : ∀ {ps : List Pk} {n : Nat} {H H' : S.kt.H} {o : aj4 S ps}, aur S ps n H = some (o, H') → ∀ {ρ : Env} {vs : List Value} {X : List aaf}, al4 S ρ ps n vs → Sat B w (dH S.kt ρ H ++ X) → Sat B w (afr S ps o vs ++ (dH S.kt ρ H' ++ X))
  | [], n, H, H', o, h, ρ, vs, X, _, s => by
    cases h
    cases vs <;> exact s
  | _ :: _, n, H, H', o, h, ρ, [], X, ha, s => by
    rename_i p ps
    cases p <;> exact ha.elim
  | .sh _ :: ps, n, H, H', o, h, ρ, v :: vs, X, ha, s => ail (ps := ps) (n := n + 1) h ha s
  | .val c :: ps, n, H, H', o, h, ρ, v :: vs, X, ha, s => ail (ps := ps) (n := n + S.kt.sz c) h ha s
  | .ref c :: ps, n, H, H', o, h, ρ, v :: vs, X, ha, s => by
    unfold aur at h
    split at h
    · rename_i x H1 h1
      split at h
      · rename_i r H2 h2
        cases h
        have s1 := agq h1 s
        have s2 := ail h2 (X := pcS S.kt (vw1 S.T S.M (.own c) x) (aav ρ (.ptr n 0)) :: X) ha.2 (s1.perm (List.perm_middle (l₁ := dH S.kt ρ H1)).symm)
        have s3 := s2.perm (ahN _ _ _ _)
        rw [← ha.1] at s3
        exact s3
      · cases h
    · cases h
  | .mch :: ps, n, H, H', o, h, ρ, v :: vs, X, ha, s => by
    unfold aur at h
    split at h
    · rename_i x H1 h1
      split at h
      · rename_i r H2 h2
        cases h
        have s1 := agq h1 s
        have s2 := ail h2 (X := pcS S.kt (vw1 S.T S.M .mach x) (aav ρ (.mc n)) :: X) ha.2 (s1.perm (List.perm_middle (l₁ := dH S.kt ρ H1)).symm)
        have s3 := s2.perm (ahN _ _ _ _)
        rw [← ha.1] at s3
        exact s3
      · cases h
    · cases h
  | .lent c :: ps, n, H, H', o, h, ρ, v :: vs, X, ha, s => by
    unfold aur at h
    split at h
    · rename_i x H1 h1
      split at h
      · rename_i r H2 h2
        cases h
        have s1 := agq h1 s
        have s2 := ail h2 (X := pcS S.kt (vw1 S.T S.M (.row c) x) (aav ρ (.sl n)) :: X) ha.2 (s1.perm (List.perm_middle (l₁ := dH S.kt ρ H1)).symm)
        have s3 := s2.perm (ahN _ _ _ _)
        rw [← ha.1] at s3
        exact s3
      · cases h
    · cases h
theorem agl : ∀ {ps : List Pk} {x : al6 S ps} {n : Nat} {ρ ρ' : Env} {vs : List Value}, vs = aak ρ (cin S ps x n).1 → aaw (cin S ps x n).2.2 ρ ρ' → al4 S ρ' ps n vs ∧ n ≤ (cin S ps x n).2.2
  | [], x, n, ρ, ρ', vs, h, a => ⟨trivial, Nat.le_refl _⟩
  | .sh s0 :: ps, x, n, ρ, ρ', vs, h, a => by
    subst h
    obtain ⟨h1, h2⟩ := agl (ps := ps) (x := x.2) (n := n + 1) rfl a
    exact ⟨h1, Nat.le_trans (Nat.le_succ n) h2⟩
  | .val c :: ps, x, n, ρ, ρ', vs, h, a => by
    subst h
    obtain ⟨h1, h2⟩ := agl (ps := ps) (x := x.2) (n := n + S.kt.sz c) rfl a
    exact ⟨h1, Nat.le_trans (Nat.le_add_right ..) h2⟩
  | .ref c :: ps, x, n, ρ, ρ', vs, h, a => by
    subst h
    obtain ⟨h1, h2⟩ := agl (ps := ps) (x := x.2) (n := n + 1) rfl a
    refine ⟨⟨?_, h1⟩, Nat.le_trans (Nat.le_succ n) h2⟩
    exact aaV (v := .ptr n 0) (n := n + 1) (a.le h2) (Nat.le_refl _)
  | .mch :: ps, x, n, ρ, ρ', vs, h, a => by
    subst h
    obtain ⟨h1, h2⟩ := agl (ps := ps) (x := x.2) (n := n + 1) rfl a
    refine ⟨⟨?_, h1⟩, Nat.le_trans (Nat.le_succ n) h2⟩
    exact aaV (v := .mc n) (n := n + 1) (a.le h2) (Nat.le_refl _)
  | .lent c :: ps, x, n, ρ, ρ', vs, h, a => by
    subst h
    obtain ⟨h1, h2⟩ := agl (ps := ps) (x := x.2) (n := n + 1) rfl a
    refine ⟨⟨?_, h1⟩, Nat.le_trans (Nat.le_succ n) h2⟩
    exact aaV (v := .sl n) (n := n + 1) (a.le h2) (Nat.le_refl _)
theorem aqz {rs : List Rk} {v : V} {l : List V} (h : az8 rs v = some l) (ρ : Env) : aav ρ v = aqi (aak ρ l) := by
  unfold az8 at h
  split at h
  · cases h; rfl
  · split at h
    · cases h
    · rename_i l' hne
      cases h
      match l, hne with
      | [], _ => rfl
      | [_], hne => cases hne
      | _ :: _ :: _, _ => rfl
  · cases h
theorem avP [Tb] {P : Program} (hm : P.follows .mixedOrders = true) {f : FuncId} {fn : Func} (hf : P.funcs[f]? = some fn) {call : aim S.kt} (hc : ∀ B W, aym B W → ah3 S.kt P B W call) {hs : List (Nat × Hint)} {ps : List Pk} {rs : List Rk} {spec : al6 S ps → Option (al9 S rs × aj4 S ps)}
    (h : ∀ x, evF S P call hs fn (cin S ps x 0).1 (cin S ps x 0).2.2 [] (cin S ps x 0).2.1 (ayf S ps rs) = spec x) (hb : Nat.blt f ae2 = true := by rfl) : auh S P f ps rs spec := by
  intro x out hx B W hg vs F w hw
  obtain ⟨ρ, _, e1, s1⟩ := alU (n := 0) (ρ := ⟨fun _ => (0, 0), fun _ => ⟨none, 0, 0⟩, fun _ => undef⟩) (X := fun _ => [F]) (fun _ _ _ => rfl) hw.2.2
  have s2 : Cls B W (dS S.kt ρ [] (cin S ps x 0).2.1 F) w := ⟨hw.1, hw.2.1, s1⟩
  have h1 := awi hm (hc B W hg) hf ((h x).trans hx) s2
  rw [← e1] at h1
  rw [acu hb]
  refine h1.mono fun e w' ⟨y, ⟨ha, hn, hk⟩, he, hb1, hb2, hs⟩ => ?_
  unfold ayf at hk
  split at hk
  · rename_i l hl
    split at hk
    · rename_i r H1 hr
      split at hk
      · rename_i o H2 ho
        cases hk
        have s3 := anV hr (X := [F]) (anK hs)
        have s4 : Sat B w' (dH S.kt y.ρ H1 ++ (an4 S rs r (aak y.ρ l) ++ [F])) := s3.perm (ab5 _ _ _)
        have s5 := ail ho (agl e1 ha).1 s4
        refine ⟨aak y.ρ l, ?_, hb1, hb2, ?_⟩
        · rw [he, aqz hl]
        · have s6 := s5.perm (ab5 (afr S ps o vs) (dH S.kt y.ρ H2) (an4 S rs r (aak y.ρ l) ++ [F]))
          have s7 : Sat B w' (afr S ps o vs ++ (an4 S rs r (aak y.ρ l) ++ [F])) := s6.imp fun _ => aeQ
          exact s7.perm (ab5 _ _ _)
      · cases hk
    · cases hk
  · cases hk
end
end
end Go.Proofs.YtlcelajkhklkbaaGreat
