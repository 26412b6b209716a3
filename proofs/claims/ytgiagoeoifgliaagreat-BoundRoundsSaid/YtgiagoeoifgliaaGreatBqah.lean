/- Evaluation by itself, 10: code; calls by their bodies. No program occurs here. Evaluation by itself: contracts of functions, from their bodies. No program occurs here. -/
import Derived.Test.YtgiagoeoifgliaaGreatBqag
import Derived.LoopNIn
import Derived.Test.YtgiagoeoifgliaaGreatBqae
set_option linter.all false
namespace Go.Proofs.YtgiagoeoifgliaaGreat
section
open Go Go.RowKit
abbrev Kt (K : KT) (α : Type) := RegL → Nat → KT.H K → Option α
section
variable (K : KT) (P : Program)
def resV (R : RegL) (H : KT.H K) : List ResultVar → Option (List V)
  | [] => some []
  | .tmp t :: l => match get R t with
    | some v => match resV R H l with
      | some vs => some (v :: vs)
      | none => none
    | none => none
  | .cell t T :: l => match get R t with
    | some u => match ldV K P H T u with
      | some v => match resV R H l with
        | some vs => some (v :: vs)
        | none => none
      | none => none
    | none => none
def tupV : List V → V
  | [v] => v
  | l => .tup l
end
/-- How a loop is taken, or a place where ways meet. -/
inductive Hint where
  | loop (items : List Itm) (fuel ex : Nat)
  | cut (items : List Itm) (fz : List Nat)
  | loopR (items : List Itm) (fuel ex : Nat)
  | cutR (items : List Itm) (fz : List Nat)
  | close
  | unroll (k : Nat)
  | spl (t : Nat) (vals : List Nat) (k : Nat)
def firstId : Code → Option Nat
  | .region id _ _ => some id
  | .seq a b => match firstId a with
    | some i => some i
    | none => firstId b
  | .block _ c => firstId c
  | .loop c => firstId c
  | .cond _ a b => match firstId a with
    | some i => some i
    | none => firstId b
  | .scope c => firstId c
  | _ => none
def dstO : List Oper → List Nat
  | [] => []
  | o :: l => match o.dst with
    | some d => d :: dstO l
    | none => dstO l
def dstC : Code → List Nat
  | .region _ ops _ => dstO ops.toList
  | .seq a b => dstC a ++ dstC b
  | .block _ c => dstC c
  | .loop c => dstC c
  | .cond _ a b => dstC a ++ dstC b
  | .scope c => dstC c
  | _ => []
/-- The registers that are not written, and those that are. -/
def keepR (l : List Nat) : RegL → RegL
  | [] => []
  | (t, v) :: R => match inN l t with
    | true => keepR l R
    | false => (t, v) :: keepR l R
def selR (l : List Nat) : RegL → RegL
  | [] => []
  | (t, v) :: R => match inN l t with
    | true => (t, v) :: selR l R
    | false => selR l R
def splH {α : Type} (l : List Nat) : List (Nat × α) → List (Nat × α) × List (Nat × α)
  | [] => ([], [])
  | (t, v) :: R => match inN l t with
    | true => ((t, v) :: (splH l R).1, (splH l R).2)
    | false => ((splH l R).1, (t, v) :: (splH l R).2)
/-- What is only read may be had twice. -/
def lkH {T : Nat → Type} {M : Type} : List (Nat × Ch T M) → List (Nat × Ch T M)
  | [] => []
  | (t, v) :: R => match v with
    | .ro c xs => (t, .ro c xs) :: lkH R
    | .rr c xs => (t, .rr c xs) :: lkH R
    | _ => lkH R
theorem denC_dup {K : KT} {ρ : Env} {t : Nat} {v : Ch K.T K.M} {L : List SProp} (h : (∃ c xs, v = .ro c xs) ∨ ∃ c xs, v = .rr c xs) : Ent (denC K ρ t v :: L) (denC K ρ t v :: denC K ρ t v :: L) := by
  rcases h with ⟨c, xs, rfl⟩ | ⟨c, xs, rfl⟩
  · rintro k ⟨k1, k2, a, e, ⟨h1, h2⟩, hL⟩
    exact star_head (fun _ h => ⟨h1, h⟩) (star_tail (fun _ => star_head fun _ h => ⟨h1, h⟩) (ro_dup k ⟨k1, k2, a, e, h2, hL⟩))
  · rintro k ⟨k1, k2, a, e, ⟨h1, ps, h2⟩, hL⟩
    exact star_head (fun _ h => ⟨h1, ps, h⟩) (star_tail (fun _ => star_head fun _ h => ⟨h1, ps, h⟩) (look_dup k ⟨k1, k2, a, e, h2, hL⟩))
theorem ent_lk {K : KT} {ρ : Env} {X : List SProp} : ∀ {Z : KT.H K}, Ent (dH K ρ Z ++ X) (dH K ρ (lkH Z) ++ (dH K ρ Z ++ X))
  | [] => Ent.refl
  | (t, v) :: Z => by
    have ih := ent_lk (K := K) (ρ := ρ) (X := X) (Z := Z)
    have one : (∃ c xs, v = .ro c xs) ∨ (∃ c xs, v = .rr c xs) → Ent (dH K ρ ((t, v) :: Z) ++ X) (dH K ρ ((t, v) :: lkH Z) ++ (dH K ρ ((t, v) :: Z) ++ X)) := fun h k hk => by
      have h1 := denC_dup h k (show star (denC K ρ t v :: (dH K ρ Z ++ X)) k from hk)
      have h2 := star_tail (fun _ => star_tail (fun q hq => ih q hq)) h1
      refine star_perm ?_ h2
      show (denC K ρ t v :: denC K ρ t v :: (dH K ρ (lkH Z) ++ (dH K ρ Z ++ X))).Perm (denC K ρ t v :: (dH K ρ (lkH Z) ++ (denC K ρ t v :: (dH K ρ Z ++ X))))
      exact List.Perm.cons _ (List.perm_middle (l₁ := dH K ρ (lkH Z))).symm
    have none_ : Ent (dH K ρ ((t, v) :: Z) ++ X) (dH K ρ (lkH Z) ++ (dH K ρ ((t, v) :: Z) ++ X)) := fun k hk => by
      have h2 := star_tail (fun q hq => ih q hq) (show star (denC K ρ t v :: (dH K ρ Z ++ X)) k from hk)
      exact star_perm (List.perm_middle (l₁ := dH K ρ (lkH Z))).symm h2
    unfold lkH
    split
    · exact one (.inl ⟨_, _, rfl⟩)
    · exact one (.inr ⟨_, _, rfl⟩)
    · exact none_
theorem sta_lk {K : KT} {nt B : Nat} {W : World} {ρ : Env} {L : RList} {Y Z H : KT.H K} {F : SProp} {a : Act} {w : World} (s : Sta nt B W L (dS K ρ (Y ++ Z) H F) a w) : Sta nt B W L (dS K ρ (Y ++ Z) (H ++ lkH Y) F) a w := ⟨s.regs, s.below, s.lo, by
  have s1 : Sat B w (dH K ρ H ++ (dH K ρ (Y ++ Z) ++ [F])) := s.sat
  rw [dH_app0, List.append_assoc] at s1
  have s2 : Sat B w (dH K ρ Y ++ (dH K ρ H ++ (dH K ρ Z ++ [F]))) := s1.perm (permS _ _ _)
  have s3 := s2.imp (ent_lk (K := K) (ρ := ρ))
  refine s3.perm ?_
  show (dH K ρ (lkH Y) ++ (dH K ρ Y ++ (dH K ρ H ++ (dH K ρ Z ++ [F])))).Perm (dH K ρ (H ++ lkH Y) ++ (dH K ρ (Y ++ Z) ++ [F]))
  rw [dH_app0, dH_app0]; exact perm_cnt fun f g h1 h2 h3 => by simp only [h1, h2, h3]; omega⟩
/-- A loop, as often as a number says. -/
def lpF {σ β : Type} (F : (σ → Option β) → σ → Option β) : Nat → σ → Option β
  | 0, _ => none
  | k + 1, x => F (lpF F k) x
def itF (S : Shp) (n : Nat) (Z : S.kt.H) (items : List Itm) {β : Type} (k : TupI S items → Option β) : Kt S.kt β := fun R _ H => match itA S n Z items R H with
  | some (x, _) => k x
  | none => none
section
variable (S : Shp) (P : Program) (call : CallF S.kt) (hs : List (Nat × Hint)) (nt : Nat)
/-- A loop, round by round. -/
def unrF {α : Type} (body : RegL → Nat → S.kt.H → Kt S.kt α → Option α) : Nat → Kt S.kt α
  | 0 => fun _ _ _ => none
  | k + 1 => fun R n H => body R n H (unrF body k)
/-- Some values of a number. -/
def forkV {α : Type} (z : Int) (f : Nat → Option α) : List Nat → Option α
  | [] => none
  | m :: l => if z = ((m : Nat) : Int) then f m else forkV z f l
/-- An object told by the register that points to it. -/
def itmR (R : RegL) : Itm → Itm
  | .ob id c => match Nat.ble 1000000 id with
    | true => match get R (Nat.sub id 1000000) with
      | some (.ptr j _) => .ob j c
      | some (.ifc _ (.ptr j _)) => .ob j c
      | _ => .ob id c
    | false => .ob id c
  | it => it
def itmsR (R : RegL) : List Itm → List Itm
  | [] => []
  | it :: l => itmR R it :: itmsR R l
def hintR (R : RegL) : Hint → Hint
  | .loop items fuel ex => .loop (itmsR R items) fuel ex
  | .loopR items fuel ex => .loopR (itmsR R items) fuel ex
  | h => h
/-- Whether the cells of a hint are those that register 0 points to. -/
def recB (R : RegL) : List Itm → Bool
  | [] => true
  | .cx id _ :: l => match get R 0 with
    | some (.ptr j _) => Nat.beq j id && recB R l
    | _ => false
  | _ :: l => recB R l
def fitB (n : Nat) (Z : S.kt.H) (R : RegL) (H : S.kt.H) : Hint → Bool
  | .loop items _ _ => recB R items && (itA S n Z items R H).isSome
  | .loopR items _ _ => recB R items && (itA S n Z items R H).isSome
  | .cut items fz => recB R items && (match itA S n Z items R H with
    | some (_, Hr) => Hr.all fun p => match p.2 with
      | .cells .. => fz.any (Nat.beq p.1)
      | .row .. => fz.any (Nat.beq p.1)
      | _ => true
    | none => false)
  | .cutR items fz => recB R items && (match itA S n Z items R H with
    | some (_, Hr) => Hr.all fun p => match p.2 with
      | .cells .. => fz.any (Nat.beq p.1)
      | .row .. => fz.any (Nat.beq p.1)
      | _ => true
    | none => false)
  | _ => true
def altH : List (Nat × Hint) → Nat → List Hint
  | [], _ => []
  | p :: l, id => match Nat.beq p.1 id with
    | true => p.2 :: altH l id
    | false => altH l id
def fstH (t : Hint → Bool) : List Hint → Option Hint
  | [] => none
  | h :: l => match t h with
    | true => some h
    | false => fstH t l
/-- The hint of a place; of several, the first that fits. -/
def hintS (hs : List (Nat × Hint)) (n : Nat) (Z : S.kt.H) (R : RegL) (H : S.kt.H) (id : Nat) : Option Hint := match altH hs id with
  | [] => none
  | [h] => some h
  | l => fstH (fitB S n Z R H) l
def hintT (hs : List (Nat × Hint)) (n : Nat) (Z : S.kt.H) (R : RegL) (H : S.kt.H) (id : Nat) : Option Hint := match hintS S hs n Z R H id with
  | some h => some (hintR R h)
  | none => none
def clsR (hs : List (Nat × Hint)) (id : Nat) (H : S.kt.H) : S.kt.H := match get hs id with
  | some .close => clsG S.kt H
  | _ => H
noncomputable def ev : Code → (α : Type) → (C : RegL) → (Z : S.kt.H) → RegL → Nat → S.kt.H → Kt S.kt α → (Nat → Kt S.kt α) → Kt S.kt α → Option α
  | .skip, _, _, _, R, n, H, kn, _, _ => kn R n H
  | .region id ops d, _, C, Z, R, n, H, kn, _, _ => match d with
    | false => rtE S.kt P call ops nt C Z ops.toList R n (clsR S hs id H) kn
    | true => prepK ops.toList 0 fun L => match okM ops L with
      | true => atE S.kt P call ops nt C Z L ops.size 0 [] R n (clsR S hs id H) kn
      | false => none
  | .seq x y, α, C, Z, R, n, H, kn, ke, kr => match (firstId y).bind (hintS S hs n Z (R ++ C) H) with
    | some (.cut items fz) => match Nat.ble (topR (keepR (dstC x) R ++ C)) n && Nat.ble (topH ((splH fz H).1 ++ Z)) n with
      | true => (ev x (TupI S items) (keepR (dstC x) R ++ C) ((splH fz H).1 ++ Z) (selR (dstC x) R) n ((splH fz H).2 ++ lkH (splH fz H).1) (itF S n ((splH fz H).1 ++ Z) items some) (fun _ _ _ _ => none) (fun _ _ _ => none)).bind fun z =>
        ev y α C Z ((itB S items z n).1 ++ keepR (dstC x) R) (itB S items z n).2.2 ((itB S items z n).2.1 ++ (splH fz H).1) kn ke kr
      | false => none
    | some (.cutR items fz) => match Nat.ble (topR (keepR (dstC x) R ++ C)) n && Nat.ble (topH ((splH fz H).1 ++ Z)) n with
      | true => (ev x (TupI S items ⊕ α) (keepR (dstC x) R ++ C) ((splH fz H).1 ++ Z) (selR (dstC x) R) n ((splH fz H).2 ++ lkH (splH fz H).1) (itF S n ((splH fz H).1 ++ Z) items (fun z => some (.inl z))) (fun j R' n' H' => (ke j (R' ++ keepR (dstC x) R) n' (H' ++ (splH fz H).1)).map .inr) (fun R' n' H' => (kr (R' ++ keepR (dstC x) R) n' (H' ++ (splH fz H).1)).map .inr)).bind fun z => match z with
        | .inl z => ev y α C Z ((itB S items z n).1 ++ keepR (dstC x) R) (itB S items z n).2.2 ((itB S items z n).2.1 ++ (splH fz H).1) kn ke kr
        | .inr o => some o
      | false => none
    | _ => ev x α C Z R n H (fun R n H => ev y α C Z R n H kn ke kr) ke kr
  | .cond c x y, α, C, Z, R, n, H, kn, ke, kr => match evO (R ++ C) c with
    | some (.t b) => match b with
      | true => ev x α C Z R n H kn ke kr
      | false => ev y α C Z R n H kn ke kr
    | some (.p Q d) => @ite _ Q d (ev x α C Z R n H kn ke kr) (ev y α C Z R n H kn ke kr)
    | some (.b b) => if b = true then ev x α C Z R n H kn ke kr else ev y α C Z R n H kn ke kr
    | _ => none
  | .block id c, α, C, Z, R, n, H, kn, ke, kr => ev c α C Z R n H kn (fun j => match Nat.beq j id with | true => kn | false => ke j) kr
  | .loop c, α, C, Z, R, n, H, _, ke, kr => match (firstId c).bind (hintT S hs n Z (R ++ C) H) with
    | some (.loopR items fuel ex) => match itA S n Z items R H with
      | some (x0, Hr) => match Nat.ble (topR (keepR (dstC c) R ++ C)) n && Nat.ble (topH (Hr ++ Z)) n with
        | true => (lpF (fun self x => ev c (TupI S items ⊕ α) (keepR (dstC c) R ++ C) (Hr ++ Z) (itB S items x n).1 (itB S items x n).2.2 ((itB S items x n).2.1 ++ lkH Hr) (itF S n (Hr ++ Z) items self)
            (fun j => match Nat.beq j ex with | true => itF S n (Hr ++ Z) items (fun z => some (.inl z)) | false => fun R' n' H' => (ke j (R' ++ keepR (dstC c) R) n' (H' ++ Hr)).map .inr) (fun R' n' H' => (kr (R' ++ keepR (dstC c) R) n' (H' ++ Hr)).map .inr)) fuel x0).bind fun z => match z with
          | .inl z => ke ex ((itB S items z n).1 ++ keepR (dstC c) R) (itB S items z n).2.2 ((itB S items z n).2.1 ++ Hr)
          | .inr o => some o
        | false => none
      | none => none
    | some (.loop items fuel ex) => match itA S n Z items R H with
      | some (x0, Hr) => match Nat.ble (topR (keepR (dstC c) R ++ C)) n && Nat.ble (topH (Hr ++ Z)) n with
        | true => (lpF (fun self x => ev c (TupI S items) (keepR (dstC c) R ++ C) (Hr ++ Z) (itB S items x n).1 (itB S items x n).2.2 ((itB S items x n).2.1 ++ lkH Hr) (itF S n (Hr ++ Z) items self)
            (fun j => match Nat.beq j ex with | true => itF S n (Hr ++ Z) items some | false => fun _ _ _ => none) (fun _ _ _ => none)) fuel x0).bind fun z =>
          ke ex ((itB S items z n).1 ++ keepR (dstC c) R) (itB S items z n).2.2 ((itB S items z n).2.1 ++ Hr)
        | false => none
      | none => none
    | some (.unroll k) => unrF S (fun R n H kn => ev c α C Z R n H kn ke kr) k R n H
    | some (.spl t vals k) => match get R t with
      | some (.i kk z) => forkV z (fun m => unrF S (fun R n H kn => ev c α C Z R n H kn ke kr) k ((t, .l kk ((m : Nat) : Int)) :: del R t) n H) vals
      | _ => none
    | _ => none
  | .exit id, _, _, _, R, n, H, _, ke, _ => ke id R n H
  | .ret, _, _, _, R, n, H, _, _, kr => kr R n H
  | _, _, _, _, _, _, _, _, _, _ => none
end
theorem forkV_ok {α : Type} {z : Int} {f : Nat → Option α} {out : α} : ∀ {l : List Nat}, forkV z f l = some out → ∃ m : Nat, z = ((m : Nat) : Int) ∧ f m = some out
  | [], h => by cases h
  | m :: l, h => by
    unfold forkV at h
    split at h
    · rename_i e; exact ⟨m, e, h⟩
    · exact forkV_ok h
section
variable {S : Shp} {P : Program} {call : CallF S.kt} {hs : List (Nat × Hint)} {nt B : Nat} {W : World} {F : SProp}
theorem spl_regs {ρ : Env} {R C : RegL} {t : Nat} {kk : IntKind} {z : Int} {m : Nat} {a : Act} (hg : get R t = some (.i kk z)) (hz : z = ((m : Nat) : Int)) (r : Regs nt a (dR ρ (R ++ C))) : Regs nt a (dR ρ (((t, .l kk ((m : Nat) : Int)) :: del R t) ++ C)) := by
  refine ⟨r.size, r.defers, fun p hp => ?_⟩
  obtain ⟨q, hq, rfl⟩ := List.mem_map.1 hp
  rcases List.mem_append.1 hq with h1 | h1
  · rcases List.mem_cons.1 h1 with e1 | e1
    · subst e1
      have := r.has _ (dR_mem (ρ := ρ) (get_appL hg))
      rw [hz] at this
      exact this
    · exact r.has _ (List.mem_map.2 ⟨q, List.mem_append_left _ (del_mem e1).1, rfl⟩)
  · exact r.has _ (List.mem_map.2 ⟨q, List.mem_append_right _ h1, rfl⟩)
theorem regs_app {ρ : Env} {R C : RegL} {a : Act} (h1 : ∀ p ∈ dR ρ R, a.tmps[p.1]? = some p.2) (h2 : Regs nt a (dR ρ C)) : Regs nt a (dR ρ (R ++ C)) := ⟨h2.size, h2.defers, fun p hp => by
  unfold dR at hp; rw [List.map_append] at hp
  exact (List.mem_append.1 hp).elim (h1 p) (h2.has p)⟩
theorem regs_r {ρ : Env} {R C : RegL} {a : Act} (h : Regs nt a (dR ρ (R ++ C))) : Regs nt a (dR ρ C) := h.sub fun p hp => by unfold dR; rw [List.map_append]; exact List.mem_append_right _ hp
theorem regs_l {ρ : Env} {R C : RegL} {a : Act} (h : Regs nt a (dR ρ (R ++ C))) : Regs nt a (dR ρ R) := h.sub fun p hp => by unfold dR; rw [List.map_append]; exact List.mem_append_left _ hp
theorem keepR_sub {l : List Nat} {p : Nat × V} : ∀ {R : RegL}, p ∈ keepR l R → p ∈ R
  | [], h => by cases h
  | (t, v) :: R, h => by
    unfold keepR at h
    split at h
    · exact List.mem_cons_of_mem _ (keepR_sub h)
    · exact (List.mem_cons.1 h).elim (fun e => by subst e; exact List.mem_cons_self ..) (fun h => List.mem_cons_of_mem _ (keepR_sub h))
theorem selR_sub {l : List Nat} {p : Nat × V} : ∀ {R : RegL}, p ∈ selR l R → p ∈ R
  | [], h => by cases h
  | (t, v) :: R, h => by
    unfold selR at h
    split at h
    · exact (List.mem_cons.1 h).elim (fun e => by subst e; exact List.mem_cons_self ..) (fun h => List.mem_cons_of_mem _ (selR_sub h))
    · exact List.mem_cons_of_mem _ (selR_sub h)
theorem regs_keep {ρ : Env} {l : List Nat} {R C : RegL} {a : Act} (h : Regs nt a (dR ρ (R ++ C))) : Regs nt a (dR ρ (keepR l R ++ C)) := regs_app (fun p hp => by
  obtain ⟨q, hq, rfl⟩ := List.mem_map.1 hp
  exact (regs_l h).has _ (List.mem_map.2 ⟨q, keepR_sub hq, rfl⟩)) (regs_r h)
theorem regs_sel {ρ : Env} {l : List Nat} {R C : RegL} {a : Act} (h : Regs nt a (dR ρ (R ++ C))) : Regs nt a (dR ρ (selR l R ++ (keepR l R ++ C))) := regs_app (fun p hp => by
  obtain ⟨q, hq, rfl⟩ := List.mem_map.1 hp
  exact (regs_l h).has _ (List.mem_map.2 ⟨q, selR_sub hq, rfl⟩)) (regs_keep h)
theorem splH_perm {ρ : Env} {l : List Nat} : ∀ {H : S.kt.H}, (dH S.kt ρ H).Perm (dH S.kt ρ (splH l H).2 ++ dH S.kt ρ (splH l H).1)
  | [] => .refl _
  | (t, v) :: H => by
    unfold splH
    split
    · exact ((splH_perm (H := H)).cons _).trans (List.perm_middle).symm
    · exact (splH_perm (H := H)).cons _
/-- From what is said of the data to a state. -/
theorem it_state {n : Nat} {ρ0 ρ1 : Env} {items : List Itm} {x : TupI S items} {C : RegL} {Z : S.kt.H} {a : Act} {w : World} (h0 : Agree n ρ0 ρ1) (ok : itOk n items = true) (hC : topR C ≤ n) (hZ : topH Z ≤ n) (s : Sat B w (IS S ρ0 a items x ++ tl S.kt Z F ρ1)) (r : Regs nt a (dR ρ1 C)) (hb : Below B W w) (hl : B ≤ w.heap.size) :
    ∃ ρ', Agree n ρ0 ρ' ∧ n ≤ (itB S items x n).2.2 ∧ Sta nt B W (dR ρ' ((itB S items x n).1 ++ C)) (dS S.kt ρ' Z (itB S items x n).2.1 F) a w := by
  obtain ⟨ρ2, a2, n2, r2, s2⟩ := itB_ok (l := items) (n := n) (X := tl S.kt Z F) ok (Nat.le_refl _) h0 (fun ρ ρ' ha => tl_agree hZ ha) s
  exact ⟨ρ2, h0.trans a2 (Nat.le_refl _), n2, ⟨regs_app r2 (by rw [← dR_agree a2 C hC]; exact r), hb, hl, s2⟩⟩
theorem it_back {n : Nat} {ρ0 ρ1 : Env} {items : List Itm} {x : TupI S items} {C R : RegL} {Z H H' : S.kt.H} {a : Act} {w : World} (h : itA S n Z items R H = some (x, H')) (h0 : Agree n ρ0 ρ1) (hC : topR C ≤ n) (hZ : topH Z ≤ n) (s : Sta nt B W (dR ρ1 (R ++ C)) (dS S.kt ρ1 Z H F) a w) :
    ∃ ρ', Agree n ρ0 ρ' ∧ n ≤ (itB S items x n).2.2 ∧ Sta nt B W (dR ρ' ((itB S items x n).1 ++ C)) (dS S.kt ρ' Z (itB S items x n).2.1 F) a w := by
  obtain ⟨ok, s1⟩ := itA_ok (nt := nt) (a := a) h0 h (regs_l s.regs) (X := [F]) s.sat
  have s2 : Sat B w (dH S.kt ρ1 H' ++ (IS S ρ0 a items x ++ (dH S.kt ρ1 Z ++ [F]))) := s1.perm (permS _ _ _)
  exact it_state h0 ok hC hZ (s2.imp fun _ => star_post) (regs_r s.regs) s.below s.lo
theorem sta_in {ρ : Env} {R R' C : RegL} {Z H H' : S.kt.H} {a : Act} {w : World} (s : Sta nt B W (dR ρ (R' ++ (R ++ C))) (dS S.kt ρ (H ++ Z) H' F) a w) : Sta nt B W (dR ρ ((R' ++ R) ++ C)) (dS S.kt ρ Z (H' ++ H) F) a w := ⟨by rw [List.append_assoc]; exact s.regs, s.below, s.lo, s.sat.perm (by
  show (dH S.kt ρ H' ++ (dH S.kt ρ (H ++ Z) ++ [F])).Perm (dH S.kt ρ (H' ++ H) ++ (dH S.kt ρ Z ++ [F]))
  rw [dHa, dHa]; exact perm_cnt fun f g h1 h2 h3 => by simp only [h1, h2, h3]; omega)⟩
theorem map_inr {α β : Type} {o : Option β} {z : α ⊕ β} (h : o.map Sum.inr = some z) : ∃ y, o = some y ∧ z = .inr y := by
  cases o with
  | none => cases h
  | some y => exact ⟨y, rfl, (Option.some.inj h).symm⟩
theorem itF_some {n : Nat} {Z : S.kt.H} {items : List Itm} {β : Type} {k : TupI S items → Option β} {R : RegL} {m : Nat} {H : S.kt.H} {z : β} (h : itF S n Z items k R m H = some z) : ∃ x H', itA S n Z items R H = some (x, H') ∧ k x = some z := by
  unfold itF at h
  split at h
  · rename_i x H' hx; exact ⟨x, H', hx, h⟩
  · cases h
theorem bind_some {α β : Type} {x : Option α} {f : α → Option β} {o : β} (h : x.bind f = some o) : ∃ z, x = some z ∧ f z = some o := by
  cases x with
  | none => cases h
  | some z => exact ⟨z, rfl, h⟩
theorem clsR_ok {ρ : Env} {w : World} {X : List SProp} {id : Nat} {H : S.kt.H} (s : Sat B w (dH S.kt ρ H ++ X)) : Sat B w (dH S.kt ρ (clsR S hs id H) ++ X) := by
  unfold clsR
  split
  · exact clsG_ok s
  · exact s
theorem ev_ok (hm : P.follows .mixedOrders = true) (hc : CallOk S.kt P B W call) : ∀ (c : Code) {α : Type} {out : α} {C : RegL} {Z : S.kt.H} {R : RegL} {n : Nat} {H : S.kt.H} {kn : Kt S.kt α} {ke : Nat → Kt S.kt α} {kr : Kt S.kt α} {Q : Exit → Act → World → Prop} {ρ : Env},
    ev S P call hs nt c α C Z R n H kn ke kr = some out → KOk S.kt Q nt B W C Z F out .normal ρ n kn → (∀ j, KOk S.kt Q nt B W C Z F out (.exit j) ρ n (ke j)) → KOk S.kt Q nt B W C Z F out .ret ρ n kr →
    CT none P Q nt B W c (dR ρ (R ++ C)) (dS S.kt ρ Z H F)
  | .skip, α, out, C, Z, R, n, H, kn, ke, kr, Q, ρ, h, hn, _, _ => ct_skip (hn _ _ _ _ (Agree.refl _ _) (Nat.le_refl _) h)
  | .region id ops d, α, out, C, Z, R, n, H, kn, ke, kr, Q, ρ, h, hn, _, _ => by
    cases d with
    | false =>
      have := ct_region (id := id) (rtE_ok (r := none) (ops := ops) (Q := Q) hc (show rtE S.kt P call ops nt C Z ops.toList R n (clsR S hs id H) kn = some out from h) hn)
      exact fun a w s => this a w ⟨s.regs, s.below, s.lo, clsR_ok s.sat⟩
    | true =>
      intro a w s
      have h1 : (Code.region id ops true).wpIn (rf none) 0 P (NP Q) a w := by
        refine wpIn_region_any hm ?_
        have s0 : Sta nt B W (dR ρ (R ++ C)) (dS S.kt ρ Z (clsR S hs id H) F) a w := ⟨s.regs, s.below, s.lo, clsR_ok s.sat⟩
        have s' := (cls_drew s0.cls).st s0.regs
        have h0 : (prepK ops.toList 0 fun L => match okM ops L with
          | true => atE S.kt P call ops nt C Z L ops.size 0 [] R n (clsR S hs id H) kn
          | false => none) = some out := h
        rw [prepK_eq] at h0
        split at h0
        · rename_i hok
          exact anyF_any _ _ _ _ (atE_ok rfl hok (Ob := fun _ _ _ => True) hc RelM.none closed_none (fun _ h => by cases h) h0 hn (fun _ _ => trivial) (fun _ h => by cases h) (fun _ _ _ _ => trivial) _ _ s')
        · cases h0
      exact wpIn_mono h1 fun e a' w' hq => by cases e <;> first | exact hq | exact hq.elim
  | .seq x y, α, out, C, Z, R, n, H, kn, ke, kr, Q, ρ, h, hn, he, hr => by
    unfold ev at h
    split at h
    · rename_i items fz _
      split at h
      · rename_i hB
        simp only [Bool.and_eq_true] at hB
        have hC := Nat.le_of_ble_eq_true hB.1
        have hZ := Nat.le_of_ble_eq_true hB.2
        obtain ⟨z, hz, h2⟩ := bind_some h
        refine ct_seq fun a w s => ?_
        have s' : Sta nt B W (dR ρ (selR (dstC x) R ++ (keepR (dstC x) R ++ C))) (dS S.kt ρ ((splH fz H).1 ++ Z) (splH fz H).2 F) a w := ⟨regs_sel s.regs, s.below, s.lo, s.sat.perm (by
          show (dH S.kt ρ H ++ (dH S.kt ρ Z ++ [F])).Perm (dH S.kt ρ (splH fz H).2 ++ (dH S.kt ρ ((splH fz H).1 ++ Z) ++ [F]))
          rw [dHa]
          exact ((splH_perm (l := fz)).append_right _).trans (perm_cnt fun f g h1 h2 h3 => by simp only [h1, h2, h3]; omega))⟩
        refine ev_ok hm hc x (out := z) (Q := Exit.then (y.wpIn (rf none) 0 P Q) Q) hz ?_ ?_ ?_ a w (sta_lk s')
        · intro ρ' R' n' H' ha hle hk a' w' s2
          obtain ⟨x', H'', hA, hx⟩ := itF_some hk
          obtain rfl : x' = z := Option.some.inj hx
          obtain ⟨ρ2, a2, n2, s3⟩ := it_back hA ha hC hZ s2
          have s4 : Sta nt B W (dR ρ2 (((itB S items x' n).1 ++ keepR (dstC x) R) ++ C)) (dS S.kt ρ2 Z ((itB S items x' n).2.1 ++ (splH fz H).1) F) a' w' := ⟨by rw [List.append_assoc]; exact s3.regs, s3.below, s3.lo, s3.sat.perm (by
            show (dH S.kt ρ2 (itB S items x' n).2.1 ++ (dH S.kt ρ2 ((splH fz H).1 ++ Z) ++ [F])).Perm (dH S.kt ρ2 ((itB S items x' n).2.1 ++ (splH fz H).1) ++ (dH S.kt ρ2 Z ++ [F]))
            rw [dHa, dHa]; exact perm_cnt fun f g h1 h2 h3 => by simp only [h1, h2, h3]; omega)⟩
          exact ev_ok hm hc y h2 (hn.from a2 n2) (fun j => (he j).from a2 n2) (hr.from a2 n2) a' w' s4
        · exact fun j ρ' R' n' H' ha hle hk => by cases hk
        · exact fun ρ' R' n' H' ha hle hk => by cases hk
      · cases h
    · rename_i items fz _
      split at h
      · rename_i hB
        simp only [Bool.and_eq_true] at hB
        have hC := Nat.le_of_ble_eq_true hB.1
        have hZ := Nat.le_of_ble_eq_true hB.2
        obtain ⟨z, hz, h2⟩ := bind_some h
        refine ct_seq fun a w s => ?_
        have s' : Sta nt B W (dR ρ (selR (dstC x) R ++ (keepR (dstC x) R ++ C))) (dS S.kt ρ ((splH fz H).1 ++ Z) (splH fz H).2 F) a w := ⟨regs_sel s.regs, s.below, s.lo, s.sat.perm (by
          show (dH S.kt ρ H ++ (dH S.kt ρ Z ++ [F])).Perm (dH S.kt ρ (splH fz H).2 ++ (dH S.kt ρ ((splH fz H).1 ++ Z) ++ [F]))
          rw [dHa]
          exact ((splH_perm (l := fz)).append_right _).trans (perm_cnt fun f g h1 h2 h3 => by simp only [h1, h2, h3]; omega))⟩
        refine ev_ok hm hc x (out := z) (Q := Exit.then (y.wpIn (rf none) 0 P Q) Q) hz ?_ ?_ ?_ a w (sta_lk s')
        · intro ρ' R' n' H' ha hle hk a' w' s2
          obtain ⟨x', H'', hA, hx⟩ := itF_some hk
          obtain rfl : .inl x' = z := Option.some.inj hx
          obtain ⟨ρ2, a2, n2, s3⟩ := it_back hA ha hC hZ s2
          exact ev_ok hm hc y h2 (hn.from a2 n2) (fun j => (he j).from a2 n2) (hr.from a2 n2) a' w' (sta_in s3)
        · intro j ρ' R' n' H' ha hle hk a' w' s2
          obtain ⟨o, ho, rfl⟩ := map_inr hk
          obtain rfl : o = out := Option.some.inj h2
          exact et_then_exit (he j ρ' _ n' _ ha hle ho) a' w' (sta_in s2)
        · intro ρ' R' n' H' ha hle hk a' w' s2
          obtain ⟨o, ho, rfl⟩ := map_inr hk
          obtain rfl : o = out := Option.some.inj h2
          exact et_then_ret (hr ρ' _ n' _ ha hle ho) a' w' (sta_in s2)
      · cases h
    · refine ct_seq (ev_ok hm hc x (Q := Exit.then (y.wpIn (rf none) 0 P Q) Q) h ?_ ?_ ?_)
      · intro ρ' R' n' H' ha hle hk
        exact et_then (ev_ok hm hc y hk (hn.from ha hle) (fun j => (he j).from ha hle) (hr.from ha hle))
      · exact fun j ρ' R' n' H' ha hle hk => et_then_exit (he j ρ' R' n' H' ha hle hk)
      · exact fun ρ' R' n' H' ha hle hk => et_then_ret (hr ρ' R' n' H' ha hle hk)
  | .cond c x y, α, out, C, Z, R, n, H, kn, ke, kr, Q, ρ, h, hn, he, hr => by
    unfold ev at h
    split at h
    · rename_i b hb
      have hb' := evO_ok (ρ := ρ) hb
      cases b with
      | true => exact ct_true hb' (ev_ok hm hc x h hn he hr)
      | false => exact ct_false hb' (ev_ok hm hc y h hn he hr)
    · rename_i q d hb
      have hb' := evO_ok (ρ := ρ) hb
      refine @ct_if _ _ _ _ _ _ _ _ _ _ _ q d hb' (fun hp => ?_) (fun hp => ?_)
      · rw [if_pos hp] at h; exact ev_ok hm hc x h hn he hr
      · rw [if_neg hp] at h; exact ev_ok hm hc y h hn he hr
    · rename_i b hb
      have hb' := evO_ok (ρ := ρ) hb
      refine ct_ifb hb' (fun hp => ?_) (fun hp => ?_)
      · rw [if_pos hp] at h; exact ev_ok hm hc x h hn he hr
      · rw [if_neg (by rw [hp]; exact Bool.false_ne_true)] at h; exact ev_ok hm hc y h hn he hr
    · cases h
  | .block id c, α, out, C, Z, R, n, H, kn, ke, kr, Q, ρ, h, hn, he, hr => by
    refine ct_block (ev_ok hm hc c (Q := Exit.inBlock id Q) (show ev S P call hs nt c α C Z R n H kn (fun j => match Nat.beq j id with | true => kn | false => ke j) kr = some out from h) ?_ ?_ ?_)
    · exact fun ρ' R' n' H' ha hle hk => et_block (hn ρ' R' n' H' ha hle hk)
    · intro j ρ' R' n' H' ha hle hk
      have hk' : (match Nat.beq j id with | true => kn | false => ke j) R' n' H' = some out := hk
      cases e : Nat.beq j id with
      | true =>
        rw [e] at hk'
        obtain rfl := Nat.eq_of_beq_eq_true e
        exact et_block_here (hn ρ' R' n' H' ha hle hk')
      | false =>
        rw [e] at hk'
        exact et_block_past (by rw [beq_eq_false_iff_ne]; intro hj; subst hj; have := Nat.beq_refl j; rw [e] at this; cases this) (he j ρ' R' n' H' ha hle hk')
    · exact fun ρ' R' n' H' ha hle hk => et_block_ret (hr ρ' R' n' H' ha hle hk)
  | .exit id, α, out, C, Z, R, n, H, kn, ke, kr, Q, ρ, h, _, he, _ => ct_exit (he id _ _ _ _ (Agree.refl _ _) (Nat.le_refl _) h)
  | .ret, α, out, C, Z, R, n, H, kn, ke, kr, Q, ρ, h, _, _, hr => ct_ret (hr _ _ _ _ (Agree.refl _ _) (Nat.le_refl _) h)
  | .loop c, α, out, C, Z, R, n, H, kn, ke, kr, Q, ρ, h, hn, he, hr => by
    unfold ev at h
    split at h
    · rename_i items fuel ex _
      split at h
      · rename_i x0 Hr hx0
        split at h
        · rename_i hB
          simp only [Bool.and_eq_true] at hB
          have hC := Nat.le_of_ble_eq_true hB.1
          have hZ := Nat.le_of_ble_eq_true hB.2
          obtain ⟨z, hz, h2⟩ := bind_some h
          intro a w s
          obtain ⟨ok, s1⟩ := itA_ok (nt := nt) (a := a) (Agree.refl n ρ) hx0 (regs_l s.regs) (X := [F]) s.sat
          have s1' : Sat B w (IS S ρ a items x0 ++ tl S.kt (Hr ++ Z) F ρ) := by unfold tl; rw [dHa, List.append_assoc]; exact s1
          have J0 := it_state (nt := nt) (Agree.refl n ρ) ok hC hZ s1' (regs_keep (l := dstC c) s.regs) s.below s.lo
          refine wpIn_loop_ghost (fun k a w => ∃ x, lpF _ k x = some z ∧ ∃ ρ', Agree n ρ ρ' ∧ n ≤ (itB S items x n).2.2 ∧ Sta nt B W (dR ρ' ((itB S items x n).1 ++ (keepR (dstC c) R ++ C))) (dS S.kt ρ' (Hr ++ Z) (itB S items x n).2.1 F) a w) fuel ⟨x0, hz, J0⟩ ?_
          rintro m a' w' ⟨x, hx, ρ1, a1, n1, s2⟩
          cases m with
          | zero => cases hx
          | succ k =>
            refine ev_ok hm hc c (out := z) (Q := Exit.then (fun a' w' => ∃ m', m' < k + 1 ∧ ∃ x, lpF _ m' x = some z ∧ ∃ ρ', Agree n ρ ρ' ∧ n ≤ (itB S items x n).2.2 ∧ Sta nt B W (dR ρ' ((itB S items x n).1 ++ (keepR (dstC c) R ++ C))) (dS S.kt ρ' (Hr ++ Z) (itB S items x n).2.1 F) a' w') Q) hx ?_ ?_ ?_ a' w' (sta_lk s2)
            · intro ρ2 R' n' H' ha hle hk a2 w2 s3
              obtain ⟨x', H'', hA, hx'⟩ := itF_some hk
              exact ⟨k, Nat.lt_succ_self k, x', hx', it_back hA (a1.trans ha n1) hC hZ s3⟩
            · intro j ρ2 R' n' H' ha hle hk a2 w2 s3
              have hk' : (match Nat.beq j ex with | true => itF S n (Hr ++ Z) items (fun z => some (Sum.inl z)) | false => fun R' n' H' => (ke j (R' ++ keepR (dstC c) R) n' (H' ++ Hr)).map (Sum.inr : α → TupI S items ⊕ α)) R' n' H' = some z := hk
              cases e : Nat.beq j ex with
              | true =>
                rw [e] at hk'
                obtain rfl := Nat.eq_of_beq_eq_true e
                obtain ⟨x', H'', hA, hx'⟩ := itF_some hk'
                obtain rfl : .inl x' = z := Option.some.inj hx'
                obtain ⟨ρ3, a3, n3, s4⟩ := it_back hA (a1.trans ha n1) hC hZ s3
                exact he j ρ3 _ _ _ a3 n3 h2 a2 w2 (sta_in s4)
              | false =>
                rw [e] at hk'
                obtain ⟨o, ho, rfl⟩ := map_inr hk'
                obtain rfl : o = out := Option.some.inj h2
                exact he j ρ2 _ n' _ (a1.trans ha n1) (Nat.le_trans n1 hle) ho a2 w2 (sta_in s3)
            · intro ρ2 R' n' H' ha hle hk a2 w2 s3
              obtain ⟨o, ho, rfl⟩ := map_inr hk
              obtain rfl : o = out := Option.some.inj h2
              exact hr ρ2 _ n' _ (a1.trans ha n1) (Nat.le_trans n1 hle) ho a2 w2 (sta_in s3)
        · cases h
      · cases h
    · rename_i items fuel ex _
      split at h
      · rename_i x0 Hr hx0
        split at h
        · rename_i hB
          simp only [Bool.and_eq_true] at hB
          have hC := Nat.le_of_ble_eq_true hB.1
          have hZ := Nat.le_of_ble_eq_true hB.2
          obtain ⟨z, hz, h2⟩ := bind_some h
          intro a w s
          obtain ⟨ok, s1⟩ := itA_ok (nt := nt) (a := a) (Agree.refl n ρ) hx0 (regs_l s.regs) (X := [F]) s.sat
          have s1' : Sat B w (IS S ρ a items x0 ++ tl S.kt (Hr ++ Z) F ρ) := by unfold tl; rw [dHa, List.append_assoc]; exact s1
          have J0 := it_state (nt := nt) (Agree.refl n ρ) ok hC hZ s1' (regs_keep (l := dstC c) s.regs) s.below s.lo
          refine wpIn_loop_ghost (fun k a w => ∃ x, lpF _ k x = some z ∧ ∃ ρ', Agree n ρ ρ' ∧ n ≤ (itB S items x n).2.2 ∧ Sta nt B W (dR ρ' ((itB S items x n).1 ++ (keepR (dstC c) R ++ C))) (dS S.kt ρ' (Hr ++ Z) (itB S items x n).2.1 F) a w) fuel ⟨x0, hz, J0⟩ ?_
          rintro m a' w' ⟨x, hx, ρ1, a1, n1, s2⟩
          cases m with
          | zero => cases hx
          | succ k =>
            refine ev_ok hm hc c (out := z) (Q := Exit.then (fun a' w' => ∃ m', m' < k + 1 ∧ ∃ x, lpF _ m' x = some z ∧ ∃ ρ', Agree n ρ ρ' ∧ n ≤ (itB S items x n).2.2 ∧ Sta nt B W (dR ρ' ((itB S items x n).1 ++ (keepR (dstC c) R ++ C))) (dS S.kt ρ' (Hr ++ Z) (itB S items x n).2.1 F) a' w') Q) hx ?_ ?_ ?_ a' w' (sta_lk s2)
            · intro ρ2 R' n' H' ha hle hk a2 w2 s3
              obtain ⟨x', H'', hA, hx'⟩ := itF_some hk
              exact ⟨k, Nat.lt_succ_self k, x', hx', it_back hA (a1.trans ha n1) hC hZ s3⟩
            · intro j ρ2 R' n' H' ha hle hk a2 w2 s3
              have hk' : (match Nat.beq j ex with | true => itF S n (Hr ++ Z) items some | false => fun _ _ _ => none) R' n' H' = some z := hk
              cases e : Nat.beq j ex with
              | true =>
                rw [e] at hk'
                obtain rfl := Nat.eq_of_beq_eq_true e
                obtain ⟨x', H'', hA, hx'⟩ := itF_some hk'
                obtain rfl : x' = z := Option.some.inj hx'
                obtain ⟨ρ3, a3, n3, s4⟩ := it_back hA (a1.trans ha n1) hC hZ s3
                refine he j ρ3 _ _ _ a3 n3 h2 a2 w2 ⟨by rw [List.append_assoc]; exact s4.regs, s4.below, s4.lo, s4.sat.perm ?_⟩
                show (dH S.kt ρ3 (itB S items x' n).2.1 ++ (dH S.kt ρ3 (Hr ++ Z) ++ [F])).Perm (dH S.kt ρ3 ((itB S items x' n).2.1 ++ Hr) ++ (dH S.kt ρ3 Z ++ [F]))
                rw [dHa, dHa]; exact perm_cnt fun f g h1 h2 h3 => by simp only [h1, h2, h3]; omega
              | false =>
                rw [e] at hk'
                cases hk'
            · exact fun ρ2 R' n' H' ha hle hk => by cases hk
        · cases h
      · cases h
    · rename_i k _
      intro a w s
      refine wpIn_loop_rounds k ?_
      suffices key : ∀ (k : Nat) {R : RegL} {n : Nat} {H : S.kt.H} {ρ : Env} {a : Act} {w : World}, unrF S (fun R n H kn => ev S P call hs nt c α C Z R n H kn ke kr) k R n H = some out → (∀ j, KOk S.kt Q nt B W C Z F out (.exit j) ρ n (ke j)) → KOk S.kt Q nt B W C Z F out .ret ρ n kr →
          Sta nt B W (dR ρ (R ++ C)) (dS S.kt ρ Z H F) a w → Code.roundsIn (rf none) 0 P c Q k a w from key k h he hr s
      intro k
      induction k with
      | zero => intro R n H ρ a w h _ _ _; cases h
      | succ k ih =>
        intro R n H ρ a w h he hr s
        rw [roundsIn_succ]
        refine ev_ok hm hc c (Q := Exit.then (Code.roundsIn (rf none) 0 P c Q k) Q) (show ev S P call hs nt c α C Z R n H (unrF S (fun R n H kn => ev S P call hs nt c α C Z R n H kn ke kr) k) ke kr = some out from h) ?_ ?_ ?_ a w s
        · exact fun ρ' R' n' H' ha hle hk a' w' s' => ih hk (fun j => (he j).from ha hle) (hr.from ha hle) s'
        · exact fun j ρ' R' n' H' ha hle hk a' w' s' => he j ρ' R' n' H' ha hle hk a' w' s'
        · exact fun ρ' R' n' H' ha hle hk a' w' s' => hr ρ' R' n' H' ha hle hk a' w' s'
    · rename_i t vals k _
      split at h
      · rename_i kk z hgt
        obtain ⟨m, hz, h⟩ := forkV_ok h
        intro a w s
        refine wpIn_loop_rounds k ?_
        suffices key : ∀ (k : Nat) {R : RegL} {n : Nat} {H : S.kt.H} {ρ : Env} {a : Act} {w : World}, unrF S (fun R n H kn => ev S P call hs nt c α C Z R n H kn ke kr) k R n H = some out → (∀ j, KOk S.kt Q nt B W C Z F out (.exit j) ρ n (ke j)) → KOk S.kt Q nt B W C Z F out .ret ρ n kr →
            Sta nt B W (dR ρ (R ++ C)) (dS S.kt ρ Z H F) a w → Code.roundsIn (rf none) 0 P c Q k a w from key k h he hr ⟨spl_regs hgt hz s.regs, s.below, s.lo, s.sat⟩
        intro k
        induction k with
        | zero => intro R n H ρ a w h _ _ _; cases h
        | succ k ih =>
          intro R n H ρ a w h he hr s
          rw [roundsIn_succ]
          refine ev_ok hm hc c (Q := Exit.then (Code.roundsIn (rf none) 0 P c Q k) Q) (show ev S P call hs nt c α C Z R n H (unrF S (fun R n H kn => ev S P call hs nt c α C Z R n H kn ke kr) k) ke kr = some out from h) ?_ ?_ ?_ a w s
          · exact fun ρ' R' n' H' ha hle hk a' w' s' => ih hk (fun j => (he j).from ha hle) (hr.from ha hle) s'
          · exact fun j ρ' R' n' H' ha hle hk a' w' s' => he j ρ' R' n' H' ha hle hk a' w' s'
          · exact fun ρ' R' n' H' ha hle hk a' w' s' => hr ρ' R' n' H' ha hle hk a' w' s'
      · cases h
    · cases h
  | .rangeFunc .., _, _, _, _, _, _, _, _, _, _, _, _, h, _, _, _ => by cases h
  | .scope _, _, _, _, _, _, _, _, _, _, _, _, _, h, _, _, _ => by cases h
  | .label _, _, _, _, _, _, _, _, _, _, _, _, _, h, _, _, _ => by cases h
  | .goto _, _, _, _, _, _, _, _, _, _, _, _, _, h, _, _, _ => by cases h
  | .refuse _, _, _, _, _, _, _, _, _, _, _, _, _, h, _, _, _ => by cases h
end
section
variable {K : KT} {P : Program} {nt B : Nat}
theorem resV_run {R : RegL} {H : KT.H K} {ρ : Env} {a : Act} {w : World} {X : List SProp} (r : Regs nt a (dR ρ R)) (s : Sat B w (dH K ρ H ++ X)) : ∀ {rs : List ResultVar} {l : List V}, resV K P R H rs = some l →
    (rs.mapM (m := Sem) fun | .tmp t => pure (a.tmps.getD t undef) | .cell ad t => do loadVar t (← asAddr (a.tmps.getD ad undef))).run P w = .ok (denVs ρ l) w
  | [], l, h => by cases h; rfl
  | .tmp t :: rs, l, h => by
    unfold resV at h
    split at h
    · rename_i v hv
      split at h
      · rename_i vs hvs
        cases h
        rw [List.mapM_cons]
        have := r.has _ (dR_mem (ρ := ρ) hv)
        rw [run_bind_ok (a := denV ρ v) (w' := w) (by simp [Array.getD_eq_getD_getElem?, this, pure]), run_bind_ok (resV_run r s hvs)]
        rfl
      · cases h
    · cases h
  | .cell t T :: rs, l, h => by
    unfold resV at h
    split at h
    · rename_i u hu
      split at h
      · rename_i v hv
        split at h
        · rename_i vs hvs
          cases h
          rw [List.mapM_cons]
          have hreg := r.has _ (dR_mem (ρ := ρ) hu)
          have hl : (do loadVar T (← asAddr (a.tmps.getD t undef)) : Sem Value).run P w = .ok (denV ρ v) w := by
            unfold ldV at hv
            split at hv
            · rename_i id o
              simp only [denV] at hreg
              have e : a.tmps.getD t undef = .pointer (some ⟨(ρ.p id).1, (ρ.p id).2 + o, none⟩) := by simp [Array.getD_eq_getD_getElem?, hreg]
              rw [e]
              rw [run_bind_ok (a := (⟨(ρ.p id).1, (ρ.p id).2 + o, none⟩ : Addr)) (w' := w) rfl]
              split at hv
              · rename_i hT
                exact loadVar_run (us := [denV ρ v]) hT rfl (fun j u hj => by
                  cases j with
                  | zero => simp at hj; subst hj; exact rd1_ok hv s
                  | succ j => simp at hj) rfl
              · rename_i k hT
                simp only [Option.map_eq_some_iff] at hv
                obtain ⟨l, hl, rfl⟩ := hv
                obtain ⟨h1, h2⟩ := rdN_ok hl s
                exact loadVar_run hT (by rw [denVs_map]; simpa using h1) h2 rfl
              · cases hv
            · cases hv
          rw [run_bind_ok hl, run_bind_ok (resV_run r s hvs)]
          rfl
        · cases h
      · cases h
    · cases h
theorem tupV_den {ρ : Env} (l : List V) : tupled (denVs ρ l) = denV ρ (tupV l) := by
  match l with
  | [] => rfl
  | [v] => rfl
  | _ :: _ :: _ => rfl
theorem results_run {fn : Func} {R : RegL} {H : KT.H K} {ρ : Env} {a : Act} {w : World} {X : List SProp} {l : List V} (r : Regs nt a (dR ρ R)) (s : Sat B w (dH K ρ H ++ X)) (h : resV K P R H fn.results.toList = some l) : (results fn a.tmps).run P w = .ok (denV ρ (tupV l)) w := by
  unfold results
  have e : fn.results = fn.results.toList.toArray := by simp
  rw [e, ← tupV_den]
  simp only [List.mapM_toArray]
  rw [run_bind_ok (a := (denVs ρ l).toArray) (w' := w) (by
    rw [map_eq_pure_bind]
    exact run_bind_ok (resV_run r s h))]
  match l with
  | [] => rfl
  | [v] => rfl
  | _ :: _ :: _ => rfl
end
/-! ### Functions by their bodies -/
def regs0 : Nat → List V → RegL
  | _, [] => []
  | i, v :: l => (i, v) :: regs0 (i + 1) l
section
variable (S : Shp) (P : Program)
/-- What comes of a function's body. -/
noncomputable def evF (call : CallF S.kt) (hs : List (Nat × Hint)) {α : Type} (fn : Func) (vs : List V) (n : Nat) (Z H : S.kt.H) (k : Nat → S.kt.H → V → Option α) : Option α :=
  match fn.body with
  | some c => match Nat.ble vs.length fn.ntmps with
    | true => ev S P call hs fn.ntmps c α [] Z (regs0 0 vs) n H
      (fun R n H => match resV S.kt P R H fn.results.toList with | some l => k n H (tupV l) | none => none) (fun _ _ _ _ => none)
      (fun R n H => match resV S.kt P R H fn.results.toList with | some l => k n H (tupV l) | none => none)
    | false => none
  | none => none
/-- Calls of the functions of a table, by their bodies; others by what is known of them. -/
noncomputable def inl (tb : List (Nat × Func)) (hs : Nat → List (Nat × Hint)) (known : CallF S.kt) : Nat → CallF S.kt
  | 0 => known
  | m + 1 => fun α f vs n Z H k => match get tb f with
    | some fn => match Nat.blt f mBase with
      | true => evF S P (inl tb hs known m) (hs f) fn vs n Z H k
      | false => none
    | none => known α f vs n Z H k
end
section
variable {S : Shp} {P : Program} {B : Nat} {W : World} {hs : List (Nat × Hint)}
theorem regs0_has : ∀ (l : List V) (i : Nat) (ρ : Env) (p : Nat × Value), p ∈ dR ρ (regs0 i l) → i ≤ p.1 ∧ (denVs ρ l)[p.1 - i]? = some p.2
  | [], _, _, _, h => by cases h
  | v :: l, i, ρ, p, h => by
    rcases List.mem_cons.1 h with e | e
    · subst e
      exact ⟨Nat.le_refl _, by simp [denVs]⟩
    · obtain ⟨h1, h2⟩ := regs0_has l (i + 1) ρ p e
      refine ⟨by omega, ?_⟩
      obtain ⟨m, hm⟩ : ∃ m, p.1 - i = m + 1 := ⟨p.1 - (i + 1), by omega⟩
      rw [hm, denVs, List.getElem?_cons_succ, ← h2]
      congr 1; omega
theorem evF_ok (hm : P.follows .mixedOrders = true) {call : CallF S.kt} (hc : CallOk S.kt P B W call) {α : Type} {fid : FuncId} {fn : Func} (hf : P.funcs[fid]? = some fn) {vs : List V} {n : Nat} {Z H : S.kt.H} {k : Nat → S.kt.H → V → Option α} {out : α} (h : evF S P call hs fn vs n Z H k = some out) {F : SProp} {ρ : Env} {w : World}
    (hw : Cls B W (dS S.kt ρ Z H F) w) : Calls P fid (denVs ρ vs).toArray w fun e w' => ∃ x : Nx S.kt, (Agree n ρ x.ρ ∧ n ≤ x.n ∧ k x.n x.H x.v = some out) ∧ e = .returned (denV x.ρ x.v) ∧ Cls B W (dS S.kt x.ρ Z x.H F) w' := by
  unfold evF at h
  split at h
  · rename_i c hb
    split at h
    · rename_i hle
      have hle' := Nat.le_of_ble_eq_true hle
      refine calls_of_wp hf hb (wpIn_wide (n := 0).1 ?_)
      have key := ev_ok (nt := fn.ntmps) (B := B) (W := W) (F := F) hm hc c (Q := bodyPost P fn fun e w' => ∃ x : Nx S.kt, (Agree n ρ x.ρ ∧ n ≤ x.n ∧ k x.n x.H x.v = some out) ∧ e = .returned (denV x.ρ x.v) ∧ Cls B W (dS S.kt x.ρ Z x.H F) w') (ρ := ρ) h ?_ ?_ ?_
      · refine key _ w (hw.st ⟨by simp [denVs_map]; omega, rfl, fun p hp => ?_⟩)
        rw [List.append_nil] at hp
        obtain ⟨_, h2⟩ := regs0_has vs 0 ρ p hp
        rw [Nat.sub_zero] at h2
        have hlt := (List.getElem?_eq_some_iff.1 h2).1
        rw [Array.getElem?_append_left (by simpa using hlt)]
        simpa using h2
      · intro ρ' R' n' H' ha hn hk a w' s
        rw [List.append_nil] at s
        dsimp only at hk
        split at hk
        · rename_i l hl
          exact ⟨s.regs.defers, _, results_run s.regs s.sat hl, ⟨ρ', n', H', tupV l⟩, ⟨ha, hn, hk⟩, rfl, s.cls⟩
        · cases hk
      · exact fun j ρ' R' n' H' ha hn hk => by cases hk
      · intro ρ' R' n' H' ha hn hk a w' s
        rw [List.append_nil] at s
        dsimp only at hk
        split at hk
        · rename_i l hl
          exact bodyPost_ret (results_run s.regs s.sat hl) s.regs.defers ⟨⟨ρ', n', H', tupV l⟩, ⟨ha, hn, hk⟩, rfl, s.cls⟩
        · cases hk
    · cases h
  · cases h
theorem inl_ok (hm : P.follows .mixedOrders = true) {tb : List (Nat × Func)} {hs : Nat → List (Nat × Hint)} (ht : ∀ p ∈ tb, P.funcs[p.1]? = some p.2) {known : CallF S.kt} (hk : CallOk S.kt P B W known) : ∀ m, CallOk S.kt P B W (inl S P tb hs known m)
  | 0 => hk
  | m + 1 => fun α f vs n Z H k out h h1 h2 h3 F ρ w hw => by
    unfold inl at h
    split at h
    · rename_i fn hg
      split at h
      · rename_i hb
        rw [callsM_fn hb]
        exact evF_ok hm (inl_ok hm ht hk m) (ht _ (get_mem hg)) h hw
      · cases h
    · exact hk α f vs n Z H k out h h1 h2 h3 F ρ w hw
end
end
section
open Go Go.RowKit
/-- The table that words.Low looks at: 64 bytes, whatever they are. -/
class Tb where
  tb : Nat → Int
  rg : ∀ i, 0 ≤ tb i ∧ tb i ≤ 255
/-- The table lies in block 0, below the base. -/
def GlOk [T : Tb] (B : Nat) (W : World) : Prop := 0 < B ∧ ∀ i : Nat, i < 64 → W.cell? ⟨0, i, none⟩ = some (.int .u8 (T.tb i))
inductive Pk where
  | sh (s : Sh)
  | val (c : Nat)
  | ref (c : Nat)
  | mch
  | lent (c : Nat)
inductive Rk where
  | sh (s : Sh)
  | val (c : Nat)
section
variable (S : Shp)
def pkT : Pk → Type
  | .sh s => shT S.T S.M s
  | .val c => S.T c
  | .ref c => S.T c
  | .mch => S.M
  | .lent c => List (S.T c)
def TupP : List Pk → Type
  | [] => Unit
  | p :: l => pkT S p × TupP l
def rkT : Rk → Type
  | .sh s => shT S.T S.M s
  | .val c => S.T c
def TupR : List Rk → Type
  | [] => Unit
  | p :: l => rkT S p × TupR l
def TupO : List Pk → Type
  | [] => Unit
  | .ref c :: l => S.T c × TupO l
  | .mch :: l => S.M × TupO l
  | .lent c :: l => List (S.T c) × TupO l
  | .sh _ :: l => TupO l
  | .val _ :: l => TupO l
def valS (c : Nat) (x : S.T c) (v : Value) : SProp := fun h => ∃ us : List Value, v = .agg us.toArray ∧ star (fsS (pcS S.kt) (S.kt.vw c x) us) h
def PreS : (ps : List Pk) → TupP S ps → List Value → List SProp
  | [], _, [] => []
  | .sh s :: ps, x, v :: vs => pcS S.kt (vw1 S.T S.M s x.1) v :: PreS ps x.2 vs
  | .val c :: ps, x, v :: vs => valS S c x.1 v :: PreS ps x.2 vs
  | .ref c :: ps, x, v :: vs => pcS S.kt (.own c x.1) v :: PreS ps x.2 vs
  | .mch :: ps, x, v :: vs => pcS S.kt (.mach x.1) v :: PreS ps x.2 vs
  | .lent c :: ps, x, v :: vs => pcS S.kt (.row c x.1) v :: PreS ps x.2 vs
  | _, _, _ => [fun _ => False]
def PostS : (ps : List Pk) → TupO S ps → List Value → List SProp
  | [], _, _ => []
  | .sh _ :: ps, x, _ :: vs => PostS ps x vs
  | .val _ :: ps, x, _ :: vs => PostS ps x vs
  | .ref c :: ps, x, v :: vs => pcS S.kt (.own c x.1) v :: PostS ps x.2 vs
  | .mch :: ps, x, v :: vs => pcS S.kt (.mach x.1) v :: PostS ps x.2 vs
  | .lent c :: ps, x, v :: vs => pcS S.kt (.row c x.1) v :: PostS ps x.2 vs
  | _ :: _, _, [] => []
def ResS : (rs : List Rk) → TupR S rs → List Value → List SProp
  | [], _, [] => []
  | .sh s :: rs, x, v :: vs => pcS S.kt (vw1 S.T S.M s x.1) v :: ResS rs x.2 vs
  | .val c :: rs, x, v :: vs => valS S c x.1 v :: ResS rs x.2 vs
  | _, _, _ => [fun _ => False]
/-- What a function does, in the words of its data. -/
def ConOk [Tb] (P : Program) (f : FuncId) (ps : List Pk) (rs : List Rk) (spec : TupP S ps → Option (TupR S rs × TupO S ps)) : Prop :=
  ∀ x out, spec x = some out → ∀ B W, GlOk B W → ∀ vs F w, Cls B W (PreS S ps x vs ++ [F]) w → CallsM P f vs.toArray w fun e w' => ∃ us, e = .returned (tupled us) ∧ Cls B W (ResS S rs out.1 us ++ (PostS S ps out.2 vs ++ [F])) w'
def cin : (ps : List Pk) → TupP S ps → Nat → List V × List (Nat × Ch S.T S.M) × Nat
  | [], _, n => ([], [], n)
  | .sh s :: ps, x, n => ((opF S.kt.vw n (.f (vw1 S.T S.M s x.1))).1 :: (cin ps x.2 (n + 1)).1, chL S n (opF S.kt.vw n (.f (vw1 S.T S.M s x.1))).2 ++ (cin ps x.2 (n + 1)).2.1, (cin ps x.2 (n + 1)).2.2)
  | .ref c :: ps, x, n => (.ptr n 0 :: (cin ps x.2 (n + 1)).1, (n, .cells ((S.kt.vw c x.1).map .f)) :: (cin ps x.2 (n + 1)).2.1, (cin ps x.2 (n + 1)).2.2)
  | .mch :: ps, x, n => (.mc n :: (cin ps x.2 (n + 1)).1, (n, .mach x.1) :: (cin ps x.2 (n + 1)).2.1, (cin ps x.2 (n + 1)).2.2)
  | .lent c :: ps, x, n => (.sl n :: (cin ps x.2 (n + 1)).1, (n, .row c x.1) :: (cin ps x.2 (n + 1)).2.1, (cin ps x.2 (n + 1)).2.2)
  | .val c :: ps, x, n => (.agg (opL S n (S.kt.vw c x.1)).1 :: (cin ps x.2 (n + S.kt.sz c)).1, (opL S n (S.kt.vw c x.1)).2 ++ (cin ps x.2 (n + S.kt.sz c)).2.1, (cin ps x.2 (n + S.kt.sz c)).2.2)
def cout : (rs : List Rk) → TupR S rs → Nat → List V × List (Nat × Ch S.T S.M) × Nat
  | [], _, n => ([], [], n)
  | .sh s :: rs, x, n => ((opF S.kt.vw n (.f (vw1 S.T S.M s x.1))).1 :: (cout rs x.2 (n + 1)).1, chL S n (opF S.kt.vw n (.f (vw1 S.T S.M s x.1))).2 ++ (cout rs x.2 (n + 1)).2.1, (cout rs x.2 (n + 1)).2.2)
  | .val c :: rs, x, n => (.agg (opL S n (S.kt.vw c x.1)).1 :: (cout rs x.2 (n + S.kt.sz c)).1, (opL S n (S.kt.vw c x.1)).2 ++ (cout rs x.2 (n + S.kt.sz c)).2.1, (cout rs x.2 (n + S.kt.sz c)).2.2)
end
section
variable {S : Shp} {B : Nat} {w : World}
theorem sat_val {c : Nat} {x : S.T c} {v : Value} {L : List SProp} (s : Sat B w (valS S c x v :: L)) : ∃ us : List Value, v = .agg us.toArray ∧ Sat B w (fsS (pcS S.kt) (S.kt.vw c x) us ++ L) := by
  obtain ⟨h, Hh, k1, k2, a, e, ⟨us, h1, h2⟩, hL⟩ := s
  exact ⟨us, h1, h, Hh, star_append.2 ⟨k1, k2, a, e, h2, hL⟩⟩
theorem cin_ok : ∀ {ps : List Pk} {x : TupP S ps} {n : Nat} {vs : List Value} {ρ : Env} {X : Env → List SProp}, (∀ ρ ρ', Agree n ρ ρ' → X ρ = X ρ') → Sat B w (PreS S ps x vs ++ X ρ) →
    ∃ ρ', Agree n ρ ρ' ∧ vs = denVs ρ' (cin S ps x n).1 ∧ Sat B w (dH S.kt ρ' (cin S ps x n).2.1 ++ X ρ')
  | [], x, n, [], ρ, X, hX, s => ⟨ρ, Agree.refl _ _, rfl, s⟩
  | [], x, n, _ :: _, ρ, X, hX, s => sat_false s
  | .sh s0 :: ps, x, n, [], ρ, X, hX, s => sat_false s
  | .val c :: ps, x, n, [], ρ, X, hX, s => sat_false s
  | .ref c :: ps, x, n, [], ρ, X, hX, s => sat_false s
  | .mch :: ps, x, n, [], ρ, X, hX, s => sat_false s
  | .lent c :: ps, x, n, [], ρ, X, hX, s => sat_false s
  | .sh s0 :: ps, x, n, v :: vs, ρ, X, hX, s => by
    obtain ⟨ρ1, a1, e1, s1⟩ := op1_ok (n := n) (f := vw1 S.T S.M s0 x.1) (Y := PreS S ps x.2 vs) hX s
    obtain ⟨ρ2, a2, e2, s2⟩ := cin_ok (n := n + 1) (hX_ch (f := vw1 S.T S.M s0 x.1) hX) s1
    have htop := (opF_top (K := S.kt) (n := n) (f := .f (vw1 S.T S.M s0 x.1)) (Nat.zero_le _)).1
    refine ⟨ρ2, a1.trans a2 (Nat.le_succ n), ?_, ?_⟩
    · simp only [cin, denVs]
      rw [e1, ← e2, denV_agree a2 _ htop]
    · simp only [cin, dHa]
      refine s2.perm ?_
      rw [List.append_assoc]
      exact permS _ _ _
  | .ref c :: ps, x, n, v :: vs, ρ, X, hX, s => by
    obtain ⟨ρ1, a1, e1, s1⟩ := op1_ok (n := n) (f := .own c x.1) (Y := PreS S ps x.2 vs) hX s
    obtain ⟨ρ2, a2, e2, s2⟩ := cin_ok (n := n + 1) (hX_ch (f := .own c x.1) hX) s1
    have htop := (opF_top (K := S.kt) (n := n) (f := .f (.own c x.1)) (Nat.zero_le _)).1
    refine ⟨ρ2, a1.trans a2 (Nat.le_succ n), ?_, ?_⟩
    · simp only [cin, denVs]
      rw [e1, ← e2, denV_agree a2 _ htop]
      rfl
    · have : dH S.kt ρ2 (cin S (.ref c :: ps) x n).2.1 = dH S.kt ρ2 (chL S n (opF S.kt.vw n (.f (.own c x.1))).2) ++ dH S.kt ρ2 (cin S ps x.2 (n + 1)).2.1 := rfl
      rw [this]
      refine s2.perm ?_
      rw [List.append_assoc]
      exact permS _ _ _
  | .mch :: ps, x, n, v :: vs, ρ, X, hX, s => by
    obtain ⟨ρ1, a1, e1, s1⟩ := op1_ok (n := n) (f := .mach x.1) (Y := PreS S ps x.2 vs) hX s
    obtain ⟨ρ2, a2, e2, s2⟩ := cin_ok (n := n + 1) (hX_ch (f := .mach x.1) hX) s1
    have htop := (opF_top (K := S.kt) (n := n) (f := .f (.mach x.1)) (Nat.zero_le _)).1
    refine ⟨ρ2, a1.trans a2 (Nat.le_succ n), ?_, ?_⟩
    · simp only [cin, denVs]
      rw [e1, ← e2, denV_agree a2 _ htop]
      rfl
    · have : dH S.kt ρ2 (cin S (.mch :: ps) x n).2.1 = dH S.kt ρ2 (chL S n (opF S.kt.vw n (.f (.mach x.1))).2) ++ dH S.kt ρ2 (cin S ps x.2 (n + 1)).2.1 := rfl
      rw [this]
      refine s2.perm ?_
      rw [List.append_assoc]
      exact permS _ _ _
  | .lent c :: ps, x, n, v :: vs, ρ, X, hX, s => by
    obtain ⟨ρ1, a1, e1, s1⟩ := op1_ok (n := n) (f := .row c x.1) (Y := PreS S ps x.2 vs) hX s
    obtain ⟨ρ2, a2, e2, s2⟩ := cin_ok (n := n + 1) (hX_ch (f := .row c x.1) hX) s1
    have htop := (opF_top (K := S.kt) (n := n) (f := .f (.row c x.1)) (Nat.zero_le _)).1
    refine ⟨ρ2, a1.trans a2 (Nat.le_succ n), ?_, ?_⟩
    · simp only [cin, denVs]
      rw [e1, ← e2, denV_agree a2 _ htop]
      rfl
    · have : dH S.kt ρ2 (cin S (.lent c :: ps) x n).2.1 = dH S.kt ρ2 (chL S n (opF S.kt.vw n (.f (.row c x.1))).2) ++ dH S.kt ρ2 (cin S ps x.2 (n + 1)).2.1 := rfl
      rw [this]
      refine s2.perm ?_
      rw [List.append_assoc]
      exact permS _ _ _
  | .val c :: ps, x, n, v :: vs, ρ, X, hX, s => by
    obtain ⟨us, hv, s0⟩ := sat_val s
    obtain ⟨ρ1, a1, e1, s1⟩ := opL_ok (n := n) (l := S.kt.vw c x.1) (Y := PreS S ps x.2 vs) hX s0
    obtain ⟨ρ2, a2, e2, s2⟩ := cin_ok (n := n + S.kt.sz c) (hX_op (S.kt.sz_ok c x.1) hX) s1
    refine ⟨ρ2, a1.trans a2 (Nat.le_add_right ..), ?_, ?_⟩
    · simp only [cin, denVs, denV]
      rw [hv, e1, ← e2, (opL_agree (a2.le (Nat.le_of_eq (congrArg (n + ·) (S.kt.sz_ok c x.1))))).1]
    · simp only [cin, dHa]
      refine s2.perm ?_
      rw [List.append_assoc]
      exact permS _ _ _
theorem cout_ok : ∀ {rs : List Rk} {x : TupR S rs} {n : Nat} {vs : List Value} {ρ : Env} {X : Env → List SProp}, (∀ ρ ρ', Agree n ρ ρ' → X ρ = X ρ') → Sat B w (ResS S rs x vs ++ X ρ) →
    ∃ ρ', Agree n ρ ρ' ∧ vs = denVs ρ' (cout S rs x n).1 ∧ Sat B w (dH S.kt ρ' (cout S rs x n).2.1 ++ X ρ')
  | [], x, n, [], ρ, X, hX, s => ⟨ρ, Agree.refl _ _, rfl, s⟩
  | [], x, n, _ :: _, ρ, X, hX, s => sat_false s
  | .sh s0 :: ps, x, n, [], ρ, X, hX, s => sat_false s
  | .val c :: ps, x, n, [], ρ, X, hX, s => sat_false s
  | .sh s0 :: ps, x, n, v :: vs, ρ, X, hX, s => by
    obtain ⟨ρ1, a1, e1, s1⟩ := op1_ok (n := n) (f := vw1 S.T S.M s0 x.1) (Y := ResS S ps x.2 vs) hX s
    obtain ⟨ρ2, a2, e2, s2⟩ := cout_ok (n := n + 1) (hX_ch (f := vw1 S.T S.M s0 x.1) hX) s1
    have htop := (opF_top (K := S.kt) (n := n) (f := .f (vw1 S.T S.M s0 x.1)) (Nat.zero_le _)).1
    refine ⟨ρ2, a1.trans a2 (Nat.le_succ n), ?_, ?_⟩
    · simp only [cout, denVs]
      rw [e1, ← e2, denV_agree a2 _ htop]
    · simp only [cout, dHa]
      refine s2.perm ?_
      rw [List.append_assoc]
      exact permS _ _ _
  | .val c :: ps, x, n, v :: vs, ρ, X, hX, s => by
    obtain ⟨us, hv, s0⟩ := sat_val s
    obtain ⟨ρ1, a1, e1, s1⟩ := opL_ok (n := n) (l := S.kt.vw c x.1) (Y := ResS S ps x.2 vs) hX s0
    obtain ⟨ρ2, a2, e2, s2⟩ := cout_ok (n := n + S.kt.sz c) (hX_op (S.kt.sz_ok c x.1) hX) s1
    refine ⟨ρ2, a1.trans a2 (Nat.le_add_right ..), ?_, ?_⟩
    · simp only [cout, denVs, denV]
      rw [hv, e1, ← e2, (opL_agree (a2.le (Nat.le_of_eq (congrArg (n + ·) (S.kt.sz_ok c x.1))))).1]
    · simp only [cout, dHa]
      refine s2.perm ?_
      rw [List.append_assoc]
      exact permS _ _ _
end
/-! ### Data from values -/
section
variable (S : Shp)
def asmV (H : S.kt.H) (c : Nat) (v : V) : Option (S.T c × S.kt.H) :=
  match v with
  | .agg l => match asmL S.kt (asm S.kt) H (S.kt.vw c (S.kt.df c)) (l.map .v) with
    | some (fs, H') => match S.kt.bk c fs with
      | some x => some (x, H')
      | none => none
    | none => none
  | _ => none
def asmR : (rs : List Rk) → S.kt.H → List V → Option (TupR S rs × S.kt.H)
  | [], H, [] => some ((), H)
  | .sh s :: rs, H, v :: vs => match asm1 S H s v with
    | some (x, H1) => match asmR rs H1 vs with
      | some (r, H2) => some ((x, r), H2)
      | none => none
    | none => none
  | .val c :: rs, H, v :: vs => match asmV S H c v with
    | some (x, H1) => match asmR rs H1 vs with
      | some (r, H2) => some ((x, r), H2)
      | none => none
    | none => none
  | _, _, _ => none
/-- What became of the objects that came in, by their numbers. -/
def asmP : (ps : List Pk) → Nat → S.kt.H → Option (TupO S ps × S.kt.H)
  | [], _, H => some ((), H)
  | .sh _ :: ps, n, H => asmP ps (n + 1) H
  | .val c :: ps, n, H => asmP ps (n + S.kt.sz c) H
  | .ref c :: ps, n, H => match asm1 S H (.own c) (.ptr n 0) with
    | some (x, H1) => match asmP ps (n + 1) H1 with
      | some (r, H2) => some ((x, r), H2)
      | none => none
    | none => none
  | .mch :: ps, n, H => match asm1 S H .mach (.mc n) with
    | some (x, H1) => match asmP ps (n + 1) H1 with
      | some (r, H2) => some ((x, r), H2)
      | none => none
    | none => none
  | .lent c :: ps, n, H => match asm1 S H (.row c) (.sl n) with
    | some (x, H1) => match asmP ps (n + 1) H1 with
      | some (r, H2) => some ((x, r), H2)
      | none => none
    | none => none
def resL : List Rk → V → Option (List V)
  | [_], v => some [v]
  | _, .tup l => match Nat.beq l.length 1 with
    | true => none
    | false => some l
  | _, _ => none
/-- How a body's end is read. -/
def kfin (ps : List Pk) (rs : List Rk) : Nat → S.kt.H → V → Option (TupR S rs × TupO S ps) := fun _ H v =>
  match resL rs v with
  | some l => match asmR S rs (clsG S.kt H) l with
    | some (r, H1) => match asmP S ps 0 H1 with
      | some (o, _) => some (r, o)
      | none => none
    | none => none
  | none => none
end
section
variable {S : Shp} {B : Nat} {w : World}
theorem asmV_ok {H H' : S.kt.H} {c : Nat} {v : V} {x : S.T c} (h : asmV S H c v = some (x, H')) {ρ : Env} {X : List SProp} (s : Sat B w (dH S.kt ρ H ++ X)) : Sat B w (valS S c x (denV ρ v) :: (dH S.kt ρ H' ++ X)) := by
  unfold asmV at h
  split at h
  · rename_i l
    split at h
    · rename_i fs H1 hl
      split at h
      · rename_i y hy
        cases h
        have s1 := asmL_ok asm_ok hl (ρ := ρ) (X := X) (vs := denVs ρ l) (s.imp fun k hk => fsS_vals hk)
        rw [← S.kt.bk_ok _ _ _ hy] at s1
        refine s1.imp fun k hk => ?_
        obtain ⟨k1, k2, a, e, g1, g2⟩ := star_append.1 hk
        exact ⟨k1, k2, a, e, ⟨denVs ρ l, rfl, g1⟩, g2⟩
      · cases h
    · cases h
  · cases h
theorem asmR_ok : ∀ {rs : List Rk} {H H' : S.kt.H} {vs : List V} {r : TupR S rs}, asmR S rs H vs = some (r, H') → ∀ {ρ : Env} {X : List SProp}, Sat B w (dH S.kt ρ H ++ X) → Sat B w (ResS S rs r (denVs ρ vs) ++ (dH S.kt ρ H' ++ X))
  | [], H, H', [], r, h, ρ, X, s => by cases h; exact s
  | [], _, _, _ :: _, _, h, _, _, _ => by cases h
  | .sh s0 :: rs, H, H', [], r, h, _, _, _ => by cases h
  | .val c :: rs, H, H', [], r, h, _, _, _ => by cases h
  | .sh s0 :: rs, H, H', v :: vs, r, h, ρ, X, s => by
    unfold asmR at h
    split at h
    · rename_i x H1 h1
      split at h
      · rename_i r' H2 h2
        cases h
        have s1 := asm1_ok h1 s
        have s2 := asmR_ok h2 (X := pcS S.kt (vw1 S.T S.M s0 x) (denV ρ v) :: X) (s1.perm (List.perm_middle (l₁ := dH S.kt ρ H1)).symm)
        exact s2.perm (perm3 _ _ _ _)
      · cases h
    · cases h
  | .val c :: rs, H, H', v :: vs, r, h, ρ, X, s => by
    unfold asmR at h
    split at h
    · rename_i x H1 h1
      split at h
      · rename_i r' H2 h2
        cases h
        have s1 := asmV_ok h1 s
        have s2 := asmR_ok h2 (X := valS S c x (denV ρ v) :: X) (s1.perm (List.perm_middle (l₁ := dH S.kt ρ H1)).symm)
        exact s2.perm (perm3 _ _ _ _)
      · cases h
    · cases h
/-- The places of the objects that came in. -/
def argsOf (S : Shp) (ρ : Env) : List Pk → Nat → List Value → Prop
  | [], _, _ => True
  | .sh _ :: ps, n, _ :: vs => argsOf S ρ ps (n + 1) vs
  | .val c :: ps, n, _ :: vs => argsOf S ρ ps (n + S.kt.sz c) vs
  | .ref _ :: ps, n, v :: vs => v = denV ρ (.ptr n 0) ∧ argsOf S ρ ps (n + 1) vs
  | .mch :: ps, n, v :: vs => v = denV ρ (.mc n) ∧ argsOf S ρ ps (n + 1) vs
  | .lent _ :: ps, n, v :: vs => v = denV ρ (.sl n) ∧ argsOf S ρ ps (n + 1) vs
  | _ :: _, _, [] => False
theorem asmP_ok : ∀ {ps : List Pk} {n : Nat} {H H' : S.kt.H} {o : TupO S ps}, asmP S ps n H = some (o, H') → ∀ {ρ : Env} {vs : List Value} {X : List SProp}, argsOf S ρ ps n vs → Sat B w (dH S.kt ρ H ++ X) → Sat B w (PostS S ps o vs ++ (dH S.kt ρ H' ++ X))
  | [], n, H, H', o, h, ρ, vs, X, _, s => by
    cases h
    cases vs <;> exact s
  | _ :: _, n, H, H', o, h, ρ, [], X, ha, s => by
    rename_i p ps
    cases p <;> exact ha.elim
  | .sh _ :: ps, n, H, H', o, h, ρ, v :: vs, X, ha, s => asmP_ok (ps := ps) (n := n + 1) h ha s
  | .val c :: ps, n, H, H', o, h, ρ, v :: vs, X, ha, s => asmP_ok (ps := ps) (n := n + S.kt.sz c) h ha s
  | .ref c :: ps, n, H, H', o, h, ρ, v :: vs, X, ha, s => by
    unfold asmP at h
    split at h
    · rename_i x H1 h1
      split at h
      · rename_i r H2 h2
        cases h
        have s1 := asm1_ok h1 s
        have s2 := asmP_ok h2 (X := pcS S.kt (vw1 S.T S.M (.own c) x) (denV ρ (.ptr n 0)) :: X) ha.2 (s1.perm (List.perm_middle (l₁ := dH S.kt ρ H1)).symm)
        have s3 := s2.perm (perm3 _ _ _ _)
        rw [← ha.1] at s3
        exact s3
      · cases h
    · cases h
  | .mch :: ps, n, H, H', o, h, ρ, v :: vs, X, ha, s => by
    unfold asmP at h
    split at h
    · rename_i x H1 h1
      split at h
      · rename_i r H2 h2
        cases h
        have s1 := asm1_ok h1 s
        have s2 := asmP_ok h2 (X := pcS S.kt (vw1 S.T S.M .mach x) (denV ρ (.mc n)) :: X) ha.2 (s1.perm (List.perm_middle (l₁ := dH S.kt ρ H1)).symm)
        have s3 := s2.perm (perm3 _ _ _ _)
        rw [← ha.1] at s3
        exact s3
      · cases h
    · cases h
  | .lent c :: ps, n, H, H', o, h, ρ, v :: vs, X, ha, s => by
    unfold asmP at h
    split at h
    · rename_i x H1 h1
      split at h
      · rename_i r H2 h2
        cases h
        have s1 := asm1_ok h1 s
        have s2 := asmP_ok h2 (X := pcS S.kt (vw1 S.T S.M (.row c) x) (denV ρ (.sl n)) :: X) ha.2 (s1.perm (List.perm_middle (l₁ := dH S.kt ρ H1)).symm)
        have s3 := s2.perm (perm3 _ _ _ _)
        rw [← ha.1] at s3
        exact s3
      · cases h
    · cases h
theorem cin_args : ∀ {ps : List Pk} {x : TupP S ps} {n : Nat} {ρ ρ' : Env} {vs : List Value}, vs = denVs ρ (cin S ps x n).1 → Agree (cin S ps x n).2.2 ρ ρ' → argsOf S ρ' ps n vs ∧ n ≤ (cin S ps x n).2.2
  | [], x, n, ρ, ρ', vs, h, a => ⟨trivial, Nat.le_refl _⟩
  | .sh s0 :: ps, x, n, ρ, ρ', vs, h, a => by
    subst h
    obtain ⟨h1, h2⟩ := cin_args (ps := ps) (x := x.2) (n := n + 1) rfl a
    exact ⟨h1, Nat.le_trans (Nat.le_succ n) h2⟩
  | .val c :: ps, x, n, ρ, ρ', vs, h, a => by
    subst h
    obtain ⟨h1, h2⟩ := cin_args (ps := ps) (x := x.2) (n := n + S.kt.sz c) rfl a
    exact ⟨h1, Nat.le_trans (Nat.le_add_right ..) h2⟩
  | .ref c :: ps, x, n, ρ, ρ', vs, h, a => by
    subst h
    obtain ⟨h1, h2⟩ := cin_args (ps := ps) (x := x.2) (n := n + 1) rfl a
    refine ⟨⟨?_, h1⟩, Nat.le_trans (Nat.le_succ n) h2⟩
    exact denV_agree (v := .ptr n 0) (n := n + 1) (a.le h2) (Nat.le_refl _)
  | .mch :: ps, x, n, ρ, ρ', vs, h, a => by
    subst h
    obtain ⟨h1, h2⟩ := cin_args (ps := ps) (x := x.2) (n := n + 1) rfl a
    refine ⟨⟨?_, h1⟩, Nat.le_trans (Nat.le_succ n) h2⟩
    exact denV_agree (v := .mc n) (n := n + 1) (a.le h2) (Nat.le_refl _)
  | .lent c :: ps, x, n, ρ, ρ', vs, h, a => by
    subst h
    obtain ⟨h1, h2⟩ := cin_args (ps := ps) (x := x.2) (n := n + 1) rfl a
    refine ⟨⟨?_, h1⟩, Nat.le_trans (Nat.le_succ n) h2⟩
    exact denV_agree (v := .sl n) (n := n + 1) (a.le h2) (Nat.le_refl _)
theorem resL_den {rs : List Rk} {v : V} {l : List V} (h : resL rs v = some l) (ρ : Env) : denV ρ v = tupled (denVs ρ l) := by
  unfold resL at h
  split at h
  · cases h; rfl
  · split at h
    · cases h
    · rename_i l' hne
      cases h
      match l, hne with
      | [], _ => rfl
      | [_], hne => cases hne
      | _ :: _ :: _, _ => rfl
  · cases h
/-- The contract that a body has. -/
theorem conOk_of [Tb] {P : Program} (hm : P.follows .mixedOrders = true) {f : FuncId} {fn : Func} (hf : P.funcs[f]? = some fn) {call : CallF S.kt} (hc : ∀ B W, GlOk B W → CallOk S.kt P B W call) {hs : List (Nat × Hint)} {ps : List Pk} {rs : List Rk} {spec : TupP S ps → Option (TupR S rs × TupO S ps)}
    (h : ∀ x, evF S P call hs fn (cin S ps x 0).1 (cin S ps x 0).2.2 [] (cin S ps x 0).2.1 (kfin S ps rs) = spec x) (hb : Nat.blt f mBase = true := by rfl) : ConOk S P f ps rs spec := by
  intro x out hx B W hg vs F w hw
  obtain ⟨ρ, _, e1, s1⟩ := cin_ok (n := 0) (ρ := ⟨fun _ => (0, 0), fun _ => ⟨none, 0, 0⟩, fun _ => undef⟩) (X := fun _ => [F]) (fun _ _ _ => rfl) hw.2.2
  have s2 : Cls B W (dS S.kt ρ [] (cin S ps x 0).2.1 F) w := ⟨hw.1, hw.2.1, s1⟩
  have h1 := evF_ok hm (hc B W hg) hf ((h x).trans hx) s2
  rw [← e1] at h1
  rw [callsM_fn hb]
  refine h1.mono fun e w' ⟨y, ⟨ha, hn, hk⟩, he, hb1, hb2, hs⟩ => ?_
  unfold kfin at hk
  split at hk
  · rename_i l hl
    split at hk
    · rename_i r H1 hr
      split at hk
      · rename_i o H2 ho
        cases hk
        have s3 := asmR_ok hr (X := [F]) (clsG_ok hs)
        have s4 : Sat B w' (dH S.kt y.ρ H1 ++ (ResS S rs r (denVs y.ρ l) ++ [F])) := s3.perm (permS _ _ _)
        have s5 := asmP_ok ho (cin_args e1 ha).1 s4
        refine ⟨denVs y.ρ l, ?_, hb1, hb2, ?_⟩
        · rw [he, resL_den hl]
        · have s6 := s5.perm (permS (PostS S ps o vs) (dH S.kt y.ρ H2) (ResS S rs r (denVs y.ρ l) ++ [F]))
          have s7 : Sat B w' (PostS S ps o vs ++ (ResS S rs r (denVs y.ρ l) ++ [F])) := s6.imp fun _ => star_post
          exact s7.perm (permS _ _ _)
      · cases hk
    · cases hk
  · cases hk
end
end
end Go.Proofs.YtgiagoeoifgliaaGreat
