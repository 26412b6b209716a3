/- Evaluation by itself,10: code; calls by their bodies. No program occurs here. Evaluation by itself: contracts of functions,from their bodies. No program occurs here. Evaluation by itself: calls by contracts. No program occurs here. -/
import Derived.Test.YtkmkhldmflebkaaGreatOzag
import Derived.LoopNIn
import Derived.Test.YtkmkhldmflebkaaGreatOzae
set_option linter.all false
namespace Go.Proofs.YtkmkhldmflebkaaGreat
section
open Go Go.RowKit
abbrev Kt (K : KT) (α : Type) := aaO → Nat → KT.H K → Option α
section
variable (K : KT) (P : Program)
def auX (R : aaO) (H : KT.H K) : List ResultVar → Option (List V)
 | [] =>some []
 | .tmp t :: l =>match get R t with
  | some v =>match auX R H l with
   | some vs =>some (v :: vs)
   | none =>none
  | none =>none
 | .cell t T :: l =>match get R t with
  | some u =>match ldV K P H T u with
   | some v =>match auX R H l with
    | some vs =>some (v :: vs)
    | none =>none
   | none =>none
  | none =>none
def avn : List V → V
 | [v] =>v
 | l =>.tup l
end
inductive Hint where
 | loop (items : List Itm) (fuel ex : Nat)
 | cut (items : List Itm) (fz : List Nat)
 | loopR (items : List Itm) (fuel ex : Nat)
 | cutR (items : List Itm) (fz : List Nat)
 | close
 | unroll (k : Nat)
 | spl (t : Nat) (vals : List Nat) (k : Nat)
def aeC : Code → Option Nat
 | .region id _ _ =>some id
 | .seq a b =>match aeC a with
  | some i =>some i
  | none =>aeC b
 | .block _ c =>aeC c
 | .loop c =>aeC c
 | .cond _ a b =>match aeC a with
  | some i =>some i
  | none =>aeC b
 | .scope c =>aeC c
 | _ =>none
def azR : List Oper → List Nat
 | [] =>[]
 | o :: l =>match o.dst with
  | some d =>d :: azR l
  | none =>azR l
def aeT : Code → List Nat
 | .region _ ops _ =>azR ops.toList
 | .seq a b =>aeT a ++ aeT b
 | .block _ c =>aeT c
 | .loop c =>aeT c
 | .cond _ a b =>aeT a ++ aeT b
 | .scope c =>aeT c
 | _ =>[]
def acL (l : List Nat) : aaO → aaO
 | [] =>[]
 | (t,v) :: R =>match inN l t with
  | true =>acL l R
  | false =>(t,v) :: acL l R
def atk (l : List Nat) : aaO → aaO
 | [] =>[]
 | (t,v) :: R =>match inN l t with
  | true =>(t,v) :: atk l R
  | false =>atk l R
def afT {α : Type} (l : List Nat) : List (Nat × α) → List (Nat × α) × List (Nat × α)
 | [] =>([],[])
 | (t,v) :: R =>match inN l t with
  | true =>((t,v) :: (afT l R).1,(afT l R).2)
  | false =>((afT l R).1,(t,v) :: (afT l R).2)
def lkH {T : Nat → Type} {M : Type} : List (Nat × Ch T M) → List (Nat × Ch T M)
 | [] =>[]
 | (t,v) :: R =>match v with
  | .ro c xs =>(t,.ro c xs) :: lkH R
  | .rr c xs =>(t,.rr c xs) :: lkH R
  | .elt j i sz =>(t,.elt j i sz) :: lkH R
  | _ =>lkH R
theorem auy {K : KT} {ρ : Env} {t : Nat} {v : Ch K.T K.M} {L : List aag} (h : (∃ c xs,v = .ro c xs) ∨ (∃ c xs,v = .rr c xs) ∨ ∃ j i sz,v = .elt j i sz) : Ent (abM K ρ t v :: L) (abM K ρ t v :: abM K ρ t v :: L) := by
 rcases h with ⟨c,xs,rfl⟩ | ⟨c,xs,rfl⟩ | ⟨j,i,sz,rfl⟩
 ·rintro k ⟨k1,k2,a,e,⟨h1,h2⟩,hL⟩
  exact aaD (fun _ h =>⟨h1,h⟩) (abf (fun _ =>aaD fun _ h =>⟨h1,h⟩) (aqI k ⟨k1,k2,a,e,h2,hL⟩))
 ·rintro k ⟨k1,k2,a,e,⟨h1,ps,h2⟩,hL⟩
  exact aaD (fun _ h =>⟨h1,ps,h⟩) (abf (fun _ =>aaD fun _ h =>⟨h1,ps,h⟩) (aih k ⟨k1,k2,a,e,h2,hL⟩))
 ·rintro k ⟨k1,k2,a,e,hp,hL⟩
  exact ⟨fun _ _ =>none,k,fun _ _ =>.inl rfl,by funext x y; rfl,hp,⟨k1,k2,a,e,hp,hL⟩⟩
theorem ave {K : KT} {ρ : Env} {X : List aag} : ∀ {Z : KT.H K},Ent (dH K ρ Z ++ X) (dH K ρ (lkH Z) ++ (dH K ρ Z ++ X))
 | [] =>Ent.refl
 | (t,v) :: Z =>by
  have ih := ave (K := K) (ρ := ρ) (X := X) (Z := Z)
  have one : ((∃ c xs,v = .ro c xs) ∨ (∃ c xs,v = .rr c xs) ∨ ∃ j i sz,v = .elt j i sz) → Ent (dH K ρ ((t,v) :: Z) ++ X) (dH K ρ ((t,v) :: lkH Z) ++ (dH K ρ ((t,v) :: Z) ++ X)) := fun h k hk =>by
   have h1 := auy h k (show abk (abM K ρ t v :: (dH K ρ Z ++ X)) k from hk)
   have h2 := abf (fun _ =>abf (fun q hq =>ih q hq)) h1
   refine abw ?_ h2
   show (abM K ρ t v :: abM K ρ t v :: (dH K ρ (lkH Z) ++ (dH K ρ Z ++ X))).Perm (abM K ρ t v :: (dH K ρ (lkH Z) ++ (abM K ρ t v :: (dH K ρ Z ++ X))))
   exact List.Perm.cons _ (List.perm_middle (l₁ := dH K ρ (lkH Z))).symm
  have none_ : Ent (dH K ρ ((t,v) :: Z) ++ X) (dH K ρ (lkH Z) ++ (dH K ρ ((t,v) :: Z) ++ X)) := fun k hk =>by
   have h2 := abf (fun q hq =>ih q hq) (show abk (abM K ρ t v :: (dH K ρ Z ++ X)) k from hk)
   exact abw (List.perm_middle (l₁ := dH K ρ (lkH Z))).symm h2
  unfold lkH
  split
  ·exact one (.inl ⟨_,_,rfl⟩)
  ·exact one (.inr (.inl ⟨_,_,rfl⟩))
  ·exact one (.inr (.inr ⟨_,_,_,rfl⟩))
  ·exact none_
theorem an5 {K : KT} {nt B : Nat} {W : World} {ρ : Env} {L : abX} {Y Z H : KT.H K} {F : aag} {a : Act} {w : World} (s : Sta nt B W L (dS K ρ (Y ++ Z) H F) a w) : Sta nt B W L (dS K ρ (Y ++ Z) (H ++ lkH Y) F) a w := ⟨s.regs,s.below,s.lo,by
 have s1 : Sat B w (dH K ρ H ++ (dH K ρ (Y ++ Z) ++ [F])) := s.sat
 rw [ai4,List.append_assoc] at s1
 have s2 : Sat B w (dH K ρ Y ++ (dH K ρ H ++ (dH K ρ Z ++ [F]))) := s1.perm (ace _ _ _)
 have s3 := s2.imp (ave (K := K) (ρ := ρ))
 refine s3.perm ?_
 show (dH K ρ (lkH Y) ++ (dH K ρ Y ++ (dH K ρ H ++ (dH K ρ Z ++ [F])))).Perm (dH K ρ (H ++ lkH Y) ++ (dH K ρ (Y ++ Z) ++ [F]))
 rw [ai4,ai4]; exact aas fun f g h1 h2 h3 =>by simp only [h1,h2,h3]; omega⟩
def lpF {σ β : Type} (F : (σ → Option β) → σ → Option β) : Nat → σ → Option β
 | 0,_ =>none
 | k + 1,x =>F (lpF F k) x
def itF (S : Shp) (n : Nat) (Z : S.kt.H) (items : List Itm) {β : Type} (k : amG S items → Option β) : Kt S.kt β := fun R _ H =>match itA S n Z items R H with
 | some (x,_) =>k x
 | none =>none
section
variable (S : Shp) (P : Program) (call : aha S.kt) (hs : List (Nat × Hint)) (nt : Nat)
def avm {α : Type} (body : aaO → Nat → S.kt.H → Kt S.kt α → Option α) : Nat → Kt S.kt α
 | 0 =>fun _ _ _ =>none
 | k + 1 =>fun R n H =>body R n H (avm body k)
def aum {α : Type} (z : Int) (f : Nat → Option α) : List Nat → Option α
 | [] =>none
 | m :: l =>if z = ((m : Nat) : Int) then f m else aum z f l
def aAz (R : aaO) : Itm → Itm
 | .ob id c =>match Nat.ble 1000000 id with
  | true =>match get R (Nat.sub id 1000000) with
   | some (.ptr j _) =>.ob j c
   | some (.ifc _ (.ptr j _)) =>.ob j c
   | _ =>.ob id c
  | false =>.ob id c
 | it =>it
def awu (R : aaO) : List Itm → List Itm
 | [] =>[]
 | it :: l =>aAz R it :: awu R l
def azt (R : aaO) : Hint → Hint
 | .loop items fuel ex =>.loop (awu R items) fuel ex
 | .loopR items fuel ex =>.loopR (awu R items) fuel ex
 | h =>h
def axd (R : aaO) : List Itm → Bool
 | [] =>true
 | .cx id _ :: l =>match get R 0 with
  | some (.ptr j _) =>Nat.beq j id && axd R l
  | _ =>false
 | _ :: l =>axd R l
def aAD (n : Nat) (Z : S.kt.H) (R : aaO) (H : S.kt.H) : Hint → Bool
 | .loop items _ _ =>axd R items && (itA S n Z items R H).isSome
 | .loopR items _ _ =>axd R items && (itA S n Z items R H).isSome
 | .cut items fz =>axd R items && (match itA S n Z items R H with
  | some (_,Hr) =>Hr.all fun p =>match p.2 with
   | .cells .. =>fz.any (Nat.beq p.1)
   | .row .. =>fz.any (Nat.beq p.1)
   | _ =>true
  | none =>false)
 | .cutR items fz =>axd R items && (match itA S n Z items R H with
  | some (_,Hr) =>Hr.all fun p =>match p.2 with
   | .cells .. =>fz.any (Nat.beq p.1)
   | .row .. =>fz.any (Nat.beq p.1)
   | _ =>true
  | none =>false)
 | _ =>true
def az0 : List (Nat × Hint) → Nat → List Hint
 | [],_ =>[]
 | p :: l,id =>match Nat.beq p.1 id with
  | true =>p.2 :: az0 l id
  | false =>az0 l id
def az8 (t : Hint → Bool) : List Hint → Option Hint
 | [] =>none
 | h :: l =>match t h with
  | true =>some h
  | false =>az8 t l
def ayq (hs : List (Nat × Hint)) (n : Nat) (Z : S.kt.H) (R : aaO) (H : S.kt.H) (id : Nat) : Option Hint := match az0 hs id with
 | [] =>none
 | [h] =>some h
 | l =>az8 (aAD S n Z R H) l
def azs (hs : List (Nat × Hint)) (n : Nat) (Z : S.kt.H) (R : aaO) (H : S.kt.H) (id : Nat) : Option Hint := match ayq S hs n Z R H id with
 | some h =>some (azt R h)
 | none =>none
def aw1 (hs : List (Nat × Hint)) (id : Nat) (H : S.kt.H) : S.kt.H := match get hs id with
 | some .close =>ay2 S.kt H
 | _ =>H
noncomputable def ev : Code → (α : Type) → (C : aaO) → (Z : S.kt.H) → aaO → Nat → S.kt.H → Kt S.kt α → (Nat → Kt S.kt α) → Kt S.kt α → Option α
 | .skip,_,_,_,R,n,H,kn,_,_ =>kn R n H
 | .region id ops d,_,C,Z,R,n,H,kn,_,_ =>match d with
  | false =>rtE S.kt P call ops nt C Z ops.toList R n (aw1 S hs id H) kn
  | true =>ark ops.toList 0 fun L =>match okM ops L with
   | true =>atE S.kt P call ops nt C Z L ops.size 0 [] R n (aw1 S hs id H) kn
   | false =>none
 | .seq x y,α,C,Z,R,n,H,kn,ke,kr =>match (aeC y).bind (ayq S hs n Z (R ++ C) H) with
  | some (.cut items fz) =>match Nat.ble (an2 (acL (aeT x) R ++ C)) n && Nat.ble (ac8 ((afT fz H).1 ++ Z)) n with
   | true =>(ev x (amG S items) (acL (aeT x) R ++ C) ((afT fz H).1 ++ Z) (atk (aeT x) R) n ((afT fz H).2 ++ lkH (afT fz H).1) (itF S n ((afT fz H).1 ++ Z) items some) (fun _ _ _ _ =>none) (fun _ _ _ =>none)).bind fun z =>
    ev y α C Z ((itB S items z n).1 ++ acL (aeT x) R) (itB S items z n).2.2 ((itB S items z n).2.1 ++ (afT fz H).1) kn ke kr
   | false =>none
  | some (.cutR items fz) =>match Nat.ble (an2 (acL (aeT x) R ++ C)) n && Nat.ble (ac8 ((afT fz H).1 ++ Z)) n with
   | true =>(ev x (amG S items ⊕ α) (acL (aeT x) R ++ C) ((afT fz H).1 ++ Z) (atk (aeT x) R) n ((afT fz H).2 ++ lkH (afT fz H).1) (itF S n ((afT fz H).1 ++ Z) items (fun z =>some (.inl z))) (fun j R' n' H' =>(ke j (R' ++ acL (aeT x) R) n' (H' ++ (afT fz H).1)).map .inr) (fun R' n' H' =>(kr (R' ++ acL (aeT x) R) n' (H' ++ (afT fz H).1)).map .inr)).bind fun z =>match z with
    | .inl z =>ev y α C Z ((itB S items z n).1 ++ acL (aeT x) R) (itB S items z n).2.2 ((itB S items z n).2.1 ++ (afT fz H).1) kn ke kr
    | .inr o =>some o
   | false =>none
  | _ =>ev x α C Z R n H (fun R n H =>ev y α C Z R n H kn ke kr) ke kr
 | .cond c x y,α,C,Z,R,n,H,kn,ke,kr =>match evO (R ++ C) c with
  | some (.t b) =>match b with
   | true =>ev x α C Z R n H kn ke kr
   | false =>ev y α C Z R n H kn ke kr
  | some (.p Q d) =>@ite _ Q d (ev x α C Z R n H kn ke kr) (ev y α C Z R n H kn ke kr)
  | some (.b b) =>if b = true then ev x α C Z R n H kn ke kr else ev y α C Z R n H kn ke kr
  | _ =>none
 | .block id c,α,C,Z,R,n,H,kn,ke,kr =>ev c α C Z R n H kn (fun j =>match Nat.beq j id with | true =>kn | false =>ke j) kr
 | .loop c,α,C,Z,R,n,H,_,ke,kr =>match (aeC c).bind (azs S hs n Z (R ++ C) H) with
  | some (.loopR items fuel ex) =>match itA S n Z items R H with
   | some (x0,Hr) =>match Nat.ble (an2 (acL (aeT c) R ++ C)) n && Nat.ble (ac8 (Hr ++ Z)) n with
    | true =>(lpF (fun self x =>ev c (amG S items ⊕ α) (acL (aeT c) R ++ C) (Hr ++ Z) (itB S items x n).1 (itB S items x n).2.2 ((itB S items x n).2.1 ++ lkH Hr) (itF S n (Hr ++ Z) items self)
      (fun j =>match Nat.beq j ex with | true =>itF S n (Hr ++ Z) items (fun z =>some (.inl z)) | false =>fun R' n' H' =>(ke j (R' ++ acL (aeT c) R) n' (H' ++ Hr)).map .inr) (fun R' n' H' =>(kr (R' ++ acL (aeT c) R) n' (H' ++ Hr)).map .inr)) fuel x0).bind fun z =>match z with
     | .inl z =>ke ex ((itB S items z n).1 ++ acL (aeT c) R) (itB S items z n).2.2 ((itB S items z n).2.1 ++ Hr)
     | .inr o =>some o
    | false =>none
   | none =>none
  | some (.loop items fuel ex) =>match itA S n Z items R H with
   | some (x0,Hr) =>match Nat.ble (an2 (acL (aeT c) R ++ C)) n && Nat.ble (ac8 (Hr ++ Z)) n with
    | true =>(lpF (fun self x =>ev c (amG S items) (acL (aeT c) R ++ C) (Hr ++ Z) (itB S items x n).1 (itB S items x n).2.2 ((itB S items x n).2.1 ++ lkH Hr) (itF S n (Hr ++ Z) items self)
      (fun j =>match Nat.beq j ex with | true =>itF S n (Hr ++ Z) items some | false =>fun _ _ _ =>none) (fun _ _ _ =>none)) fuel x0).bind fun z =>
     ke ex ((itB S items z n).1 ++ acL (aeT c) R) (itB S items z n).2.2 ((itB S items z n).2.1 ++ Hr)
    | false =>none
   | none =>none
  | some (.unroll k) =>avm S (fun R n H kn =>ev c α C Z R n H kn ke kr) k R n H
  | some (.spl t vals k) =>match get R t with
   | some (.i kk z) =>aum z (fun m =>avm S (fun R n H kn =>ev c α C Z R n H kn ke kr) k ((t,.l kk ((m : Nat) : Int)) :: del R t) n H) vals
   | _ =>none
  | _ =>none
 | .exit id,_,_,_,R,n,H,_,ke,_ =>ke id R n H
 | .ret,_,_,_,R,n,H,_,_,kr =>kr R n H
 | _,_,_,_,_,_,_,_,_,_ =>none
end
theorem aoL {α : Type} {z : Int} {f : Nat → Option α} {out : α} : ∀ {l : List Nat},aum z f l = some out → ∃ m : Nat,z = ((m : Nat) : Int) ∧ f m = some out
 | [],h =>by cases h
 | m :: l,h =>by
  unfold aum at h
  split at h
  ·rename_i e; exact ⟨m,e,h⟩
  ·exact aoL h
section
variable {S : Shp} {P : Program} {call : aha S.kt} {hs : List (Nat × Hint)} {nt B : Nat} {W : World} {F : aag}
theorem atg {ρ : Env} {R C : aaO} {t : Nat} {kk : IntKind} {z : Int} {m : Nat} {a : Act} (hg : get R t = some (.i kk z)) (hz : z = ((m : Nat) : Int)) (r : Regs nt a (dR ρ (R ++ C))) : Regs nt a (dR ρ (((t,.l kk ((m : Nat) : Int)) :: del R t) ++ C)) := by
 refine ⟨r.size,r.defers,fun p hp =>?_⟩
 obtain ⟨q,hq,rfl⟩ := List.mem_map.1 hp
 rcases List.mem_append.1 hq with h1 | h1
 ·rcases List.mem_cons.1 h1 with e1 | e1
  ·subst e1
   have := r.has _ (af3 (ρ := ρ) (akV hg))
   rw [hz] at this
   exact this
  ·exact r.has _ (List.mem_map.2 ⟨q,List.mem_append_left _ (aeF e1).1,rfl⟩)
 ·exact r.has _ (List.mem_map.2 ⟨q,List.mem_append_right _ h1,rfl⟩)
theorem ako {ρ : Env} {R C : aaO} {a : Act} (h1 : ∀ p ∈ dR ρ R,a.tmps[p.1]? = some p.2) (h2 : Regs nt a (dR ρ C)) : Regs nt a (dR ρ (R ++ C)) := ⟨h2.size,h2.defers,fun p hp =>by
 unfold dR at hp; rw [List.map_append] at hp
 exact (List.mem_append.1 hp).elim (h1 p) (h2.has p)⟩
theorem auY {ρ : Env} {R C : aaO} {a : Act} (h : Regs nt a (dR ρ (R ++ C))) : Regs nt a (dR ρ C) := h.sub fun p hp =>by unfold dR; rw [List.map_append]; exact List.mem_append_right _ hp
theorem alH {ρ : Env} {R C : aaO} {a : Act} (h : Regs nt a (dR ρ (R ++ C))) : Regs nt a (dR ρ R) := h.sub fun p hp =>by unfold dR; rw [List.map_append]; exact List.mem_append_left _ hp
theorem aiQ {l : List Nat} {p : Nat × V} : ∀ {R : aaO},p ∈ acL l R → p ∈ R
 | [],h =>by cases h
 | (t,v) :: R,h =>by
  unfold acL at h
  split at h
  ·exact List.mem_cons_of_mem _ (aiQ h)
  ·exact (List.mem_cons.1 h).elim (fun e =>by subst e; exact List.mem_cons_self ..) (fun h =>List.mem_cons_of_mem _ (aiQ h))
theorem akh {l : List Nat} {p : Nat × V} : ∀ {R : aaO},p ∈ atk l R → p ∈ R
 | [],h =>by cases h
 | (t,v) :: R,h =>by
  unfold atk at h
  split at h
  ·exact (List.mem_cons.1 h).elim (fun e =>by subst e; exact List.mem_cons_self ..) (fun h =>List.mem_cons_of_mem _ (akh h))
  ·exact List.mem_cons_of_mem _ (akh h)
theorem ais {ρ : Env} {l : List Nat} {R C : aaO} {a : Act} (h : Regs nt a (dR ρ (R ++ C))) : Regs nt a (dR ρ (acL l R ++ C)) := ako (fun p hp =>by
 obtain ⟨q,hq,rfl⟩ := List.mem_map.1 hp
 exact (alH h).has _ (List.mem_map.2 ⟨q,aiQ hq,rfl⟩)) (auY h)
theorem aod {ρ : Env} {l : List Nat} {R C : aaO} {a : Act} (h : Regs nt a (dR ρ (R ++ C))) : Regs nt a (dR ρ (atk l R ++ (acL l R ++ C))) := ako (fun p hp =>by
 obtain ⟨q,hq,rfl⟩ := List.mem_map.1 hp
 exact (alH h).has _ (List.mem_map.2 ⟨q,akh hq,rfl⟩)) (ais h)
theorem agp {ρ : Env} {l : List Nat} : ∀ {H : S.kt.H},(dH S.kt ρ H).Perm (dH S.kt ρ (afT l H).2 ++ dH S.kt ρ (afT l H).1)
 | [] =>.refl _
 | (t,v) :: H =>by
  unfold afT
  split
  ·exact ((agp (H := H)).cons _).trans (List.perm_middle).symm
  ·exact (agp (H := H)).cons _
theorem akT {n : Nat} {ρ0 ρ1 : Env} {items : List Itm} {x : amG S items} {C : aaO} {Z : S.kt.H} {a : Act} {w : World} (h0 : aau n ρ0 ρ1) (ok : ajm n items = true) (hC : an2 C ≤ n) (hZ : ac8 Z ≤ n) (s : Sat B w (IS S ρ0 a items x ++ tl S.kt Z F ρ1)) (r : Regs nt a (dR ρ1 C)) (hb : Below B W w) (hl : B ≤ w.heap.size) :
  ∃ ρ',aau n ρ0 ρ' ∧ n ≤ (itB S items x n).2.2 ∧ Sta nt B W (dR ρ' ((itB S items x n).1 ++ C)) (dS S.kt ρ' Z (itB S items x n).2.1 F) a w := by
 obtain ⟨ρ2,a2,n2,r2,s2⟩ := ahX (l := items) (n := n) (X := tl S.kt Z F) ok (Nat.le_refl _) h0 (fun ρ ρ' ha =>abQ hZ ha) s
 exact ⟨ρ2,h0.trans a2 (Nat.le_refl _),n2,⟨ako r2 (by rw [← abd a2 C hC]; exact r),hb,hl,s2⟩⟩
theorem ahy {n : Nat} {ρ0 ρ1 : Env} {items : List Itm} {x : amG S items} {C R : aaO} {Z H H' : S.kt.H} {a : Act} {w : World} (h : itA S n Z items R H = some (x,H')) (h0 : aau n ρ0 ρ1) (hC : an2 C ≤ n) (hZ : ac8 Z ≤ n) (s : Sta nt B W (dR ρ1 (R ++ C)) (dS S.kt ρ1 Z H F) a w) :
  ∃ ρ',aau n ρ0 ρ' ∧ n ≤ (itB S items x n).2.2 ∧ Sta nt B W (dR ρ' ((itB S items x n).1 ++ C)) (dS S.kt ρ' Z (itB S items x n).2.1 F) a w := by
 obtain ⟨ok,s1⟩ := arS (nt := nt) (a := a) h0 h (alH s.regs) (X := [F]) s.sat
 have s2 : Sat B w (dH S.kt ρ1 H' ++ (IS S ρ0 a items x ++ (dH S.kt ρ1 Z ++ [F]))) := s1.perm (ace _ _ _)
 exact akT h0 ok hC hZ (s2.imp fun _ =>ada) (auY s.regs) s.below s.lo
theorem ajt {ρ : Env} {R R' C : aaO} {Z H H' : S.kt.H} {a : Act} {w : World} (s : Sta nt B W (dR ρ (R' ++ (R ++ C))) (dS S.kt ρ (H ++ Z) H' F) a w) : Sta nt B W (dR ρ ((R' ++ R) ++ C)) (dS S.kt ρ Z (H' ++ H) F) a w := ⟨by rw [List.append_assoc]; exact s.regs,s.below,s.lo,s.sat.perm (by
 show (dH S.kt ρ H' ++ (dH S.kt ρ (H ++ Z) ++ [F])).Perm (dH S.kt ρ (H' ++ H) ++ (dH S.kt ρ Z ++ [F]))
 rw [dHa,dHa]; exact aas fun f g h1 h2 h3 =>by simp only [h1,h2,h3]; omega)⟩
theorem akO {α β : Type} {o : Option β} {z : α ⊕ β} (h : o.map Sum.inr = some z) : ∃ y,o = some y ∧ z = .inr y := by
 cases o with
 | none =>cases h
 | some y =>exact ⟨y,rfl,(Option.some.inj h).symm⟩
theorem afC {n : Nat} {Z : S.kt.H} {items : List Itm} {β : Type} {k : amG S items → Option β} {R : aaO} {m : Nat} {H : S.kt.H} {z : β} (h : itF S n Z items k R m H = some z) : ∃ x H',itA S n Z items R H = some (x,H') ∧ k x = some z := by
 unfold itF at h
 split at h
 ·rename_i x H' hx; exact ⟨x,H',hx,h⟩
 ·cases h
theorem aad {α β : Type} {x : Option α} {f : α → Option β} {o : β} (h : x.bind f = some o) : ∃ z,x = some z ∧ f z = some o := by
 cases x with
 | none =>cases h
 | some z =>exact ⟨z,rfl,h⟩
theorem asv {ρ : Env} {w : World} {X : List aag} {id : Nat} {H : S.kt.H} (s : Sat B w (dH S.kt ρ H ++ X)) : Sat B w (dH S.kt ρ (aw1 S hs id H) ++ X) := by
 unfold aw1
 split
 ·exact anG s
 ·exact s
theorem aeS (hm : P.follows .mixedOrders = true) (hc : ag9 S.kt P B W call) : ∀ (c : Code) {α : Type} {out : α} {C : aaO} {Z : S.kt.H} {R : aaO} {n : Nat} {H : S.kt.H} {kn : Kt S.kt α} {ke : Nat → Kt S.kt α} {kr : Kt S.kt α} {Q : Exit → Act → World → Prop} {ρ : Env},
  ev S P call hs nt c α C Z R n H kn ke kr = some out → KOk S.kt Q nt B W C Z F out .normal ρ n kn → (∀ j,KOk S.kt Q nt B W C Z F out (.exit j) ρ n (ke j)) → KOk S.kt Q nt B W C Z F out .ret ρ n kr →
  CT none P Q nt B W c (dR ρ (R ++ C)) (dS S.kt ρ Z H F)
 | .skip,α,out,C,Z,R,n,H,kn,ke,kr,Q,ρ,h,hn,_,_ =>awU (hn _ _ _ _ (aau.refl _ _) (Nat.le_refl _) h)
 | .region id ops d,α,out,C,Z,R,n,H,kn,ke,kr,Q,ρ,h,hn,_,_ =>by
  cases d with
  | false =>
   have := aso (id := id) (aqC (r := none) (ops := ops) (Q := Q) hc (show rtE S.kt P call ops nt C Z ops.toList R n (aw1 S hs id H) kn = some out from h) hn)
   exact fun a w s =>this a w ⟨s.regs,s.below,s.lo,asv s.sat⟩
  | true =>
   intro a w s
   have h1 : (Code.region id ops true).wpIn (rf none) 0 P (NP Q) a w := by
    refine wpIn_region_any hm ?_
    have s0 : Sta nt B W (dR ρ (R ++ C)) (dS S.kt ρ Z (aw1 S hs id H) F) a w := ⟨s.regs,s.below,s.lo,asv s.sat⟩
    have s' := (auH s0.cls).st s0.regs
    have h0 : (ark ops.toList 0 fun L =>match okM ops L with
     | true =>atE S.kt P call ops nt C Z L ops.size 0 [] R n (aw1 S hs id H) kn
     | false =>none) = some out := h
    rw [aos] at h0
    split at h0
    ·rename_i hok
     exact ao1 _ _ _ _ (ag5 rfl hok (Ob := fun _ _ _ =>True) hc RelM.none anH (fun _ h =>by cases h) h0 hn (fun _ _ =>trivial) (fun _ h =>by cases h) (fun _ _ _ _ =>trivial) _ _ s')
    ·cases h0
   exact wpIn_mono h1 fun e a' w' hq =>by cases e <;> first | exact hq | exact hq.elim
 | .seq x y,α,out,C,Z,R,n,H,kn,ke,kr,Q,ρ,h,hn,he,hr =>by
  unfold ev at h
  split at h
  ·rename_i items fz _
   split at h
   ·rename_i hB
    simp only [Bool.and_eq_true] at hB
    have hC := Nat.le_of_ble_eq_true hB.1
    have hZ := Nat.le_of_ble_eq_true hB.2
    obtain ⟨z,hz,h2⟩ := aad h
    refine asn fun a w s =>?_
    have s' : Sta nt B W (dR ρ (atk (aeT x) R ++ (acL (aeT x) R ++ C))) (dS S.kt ρ ((afT fz H).1 ++ Z) (afT fz H).2 F) a w := ⟨aod s.regs,s.below,s.lo,s.sat.perm (by
     show (dH S.kt ρ H ++ (dH S.kt ρ Z ++ [F])).Perm (dH S.kt ρ (afT fz H).2 ++ (dH S.kt ρ ((afT fz H).1 ++ Z) ++ [F]))
     rw [dHa]
     exact ((agp (l := fz)).append_right _).trans (aas fun f g h1 h2 h3 =>by simp only [h1,h2,h3]; omega))⟩
    refine aeS hm hc x (out := z) (Q := Exit.then (y.wpIn (rf none) 0 P Q) Q) hz ?_ ?_ ?_ a w (an5 s')
    ·intro ρ' R' n' H' ha hle hk a' w' s2
     obtain ⟨x',H'',hA,hx⟩ := afC hk
     obtain rfl : x' = z := Option.some.inj hx
     obtain ⟨ρ2,a2,n2,s3⟩ := ahy hA ha hC hZ s2
     have s4 : Sta nt B W (dR ρ2 (((itB S items x' n).1 ++ acL (aeT x) R) ++ C)) (dS S.kt ρ2 Z ((itB S items x' n).2.1 ++ (afT fz H).1) F) a' w' := ⟨by rw [List.append_assoc]; exact s3.regs,s3.below,s3.lo,s3.sat.perm (by
      show (dH S.kt ρ2 (itB S items x' n).2.1 ++ (dH S.kt ρ2 ((afT fz H).1 ++ Z) ++ [F])).Perm (dH S.kt ρ2 ((itB S items x' n).2.1 ++ (afT fz H).1) ++ (dH S.kt ρ2 Z ++ [F]))
      rw [dHa,dHa]; exact aas fun f g h1 h2 h3 =>by simp only [h1,h2,h3]; omega)⟩
     exact aeS hm hc y h2 (hn.from a2 n2) (fun j =>(he j).from a2 n2) (hr.from a2 n2) a' w' s4
    ·exact fun j ρ' R' n' H' ha hle hk =>by cases hk
    ·exact fun ρ' R' n' H' ha hle hk =>by cases hk
   ·cases h
  ·rename_i items fz _
   split at h
   ·rename_i hB
    simp only [Bool.and_eq_true] at hB
    have hC := Nat.le_of_ble_eq_true hB.1
    have hZ := Nat.le_of_ble_eq_true hB.2
    obtain ⟨z,hz,h2⟩ := aad h
    refine asn fun a w s =>?_
    have s' : Sta nt B W (dR ρ (atk (aeT x) R ++ (acL (aeT x) R ++ C))) (dS S.kt ρ ((afT fz H).1 ++ Z) (afT fz H).2 F) a w := ⟨aod s.regs,s.below,s.lo,s.sat.perm (by
     show (dH S.kt ρ H ++ (dH S.kt ρ Z ++ [F])).Perm (dH S.kt ρ (afT fz H).2 ++ (dH S.kt ρ ((afT fz H).1 ++ Z) ++ [F]))
     rw [dHa]
     exact ((agp (l := fz)).append_right _).trans (aas fun f g h1 h2 h3 =>by simp only [h1,h2,h3]; omega))⟩
    refine aeS hm hc x (out := z) (Q := Exit.then (y.wpIn (rf none) 0 P Q) Q) hz ?_ ?_ ?_ a w (an5 s')
    ·intro ρ' R' n' H' ha hle hk a' w' s2
     obtain ⟨x',H'',hA,hx⟩ := afC hk
     obtain rfl : .inl x' = z := Option.some.inj hx
     obtain ⟨ρ2,a2,n2,s3⟩ := ahy hA ha hC hZ s2
     exact aeS hm hc y h2 (hn.from a2 n2) (fun j =>(he j).from a2 n2) (hr.from a2 n2) a' w' (ajt s3)
    ·intro j ρ' R' n' H' ha hle hk a' w' s2
     obtain ⟨o,ho,rfl⟩ := akO hk
     obtain rfl : o = out := Option.some.inj h2
     exact ahY (he j ρ' _ n' _ ha hle ho) a' w' (ajt s2)
    ·intro ρ' R' n' H' ha hle hk a' w' s2
     obtain ⟨o,ho,rfl⟩ := akO hk
     obtain rfl : o = out := Option.some.inj h2
     exact ai1 (hr ρ' _ n' _ ha hle ho) a' w' (ajt s2)
   ·cases h
  ·refine asn (aeS hm hc x (Q := Exit.then (y.wpIn (rf none) 0 P Q) Q) h ?_ ?_ ?_)
   ·intro ρ' R' n' H' ha hle hk
    exact awP (aeS hm hc y hk (hn.from ha hle) (fun j =>(he j).from ha hle) (hr.from ha hle))
   ·exact fun j ρ' R' n' H' ha hle hk =>ahY (he j ρ' R' n' H' ha hle hk)
   ·exact fun ρ' R' n' H' ha hle hk =>ai1 (hr ρ' R' n' H' ha hle hk)
 | .cond c x y,α,out,C,Z,R,n,H,kn,ke,kr,Q,ρ,h,hn,he,hr =>by
  unfold ev at h
  split at h
  ·rename_i b hb
   have hb' := aaA (ρ := ρ) hb
   cases b with
   | true =>exact awT hb' (aeS hm hc x h hn he hr)
   | false =>exact auz hb' (aeS hm hc y h hn he hr)
  ·rename_i q d hb
   have hb' := aaA (ρ := ρ) hb
   refine @azT _ _ _ _ _ _ _ _ _ _ _ q d hb' (fun hp =>?_) (fun hp =>?_)
   ·rw [if_pos hp] at h; exact aeS hm hc x h hn he hr
   ·rw [if_neg hp] at h; exact aeS hm hc y h hn he hr
  ·rename_i b hb
   have hb' := aaA (ρ := ρ) hb
   refine ayF hb' (fun hp =>?_) (fun hp =>?_)
   ·rw [if_pos hp] at h; exact aeS hm hc x h hn he hr
   ·rw [if_neg (by rw [hp]; exact Bool.false_ne_true)] at h; exact aeS hm hc y h hn he hr
  ·cases h
 | .block id c,α,out,C,Z,R,n,H,kn,ke,kr,Q,ρ,h,hn,he,hr =>by
  refine auA (aeS hm hc c (Q := Exit.inBlock id Q) (show ev S P call hs nt c α C Z R n H kn (fun j =>match Nat.beq j id with | true =>kn | false =>ke j) kr = some out from h) ?_ ?_ ?_)
  ·exact fun ρ' R' n' H' ha hle hk =>aut (hn ρ' R' n' H' ha hle hk)
  ·intro j ρ' R' n' H' ha hle hk
   have hk' : (match Nat.beq j id with | true =>kn | false =>ke j) R' n' H' = some out := hk
   cases e : Nat.beq j id with
   | true =>
    rw [e] at hk'
    obtain rfl := Nat.eq_of_beq_eq_true e
    exact ak1 (hn ρ' R' n' H' ha hle hk')
   | false =>
    rw [e] at hk'
    exact ak0 (by rw [beq_eq_false_iff_ne]; intro hj; subst hj; have := Nat.beq_refl j; rw [e] at this; cases this) (he j ρ' R' n' H' ha hle hk')
  ·exact fun ρ' R' n' H' ha hle hk =>amo (hr ρ' R' n' H' ha hle hk)
 | .exit id,α,out,C,Z,R,n,H,kn,ke,kr,Q,ρ,h,_,he,_ =>awV (he id _ _ _ _ (aau.refl _ _) (Nat.le_refl _) h)
 | .ret,α,out,C,Z,R,n,H,kn,ke,kr,Q,ρ,h,_,_,hr =>ayE (hr _ _ _ _ (aau.refl _ _) (Nat.le_refl _) h)
 | .loop c,α,out,C,Z,R,n,H,kn,ke,kr,Q,ρ,h,hn,he,hr =>by
  unfold ev at h
  split at h
  ·rename_i items fuel ex _
   split at h
   ·rename_i x0 Hr hx0
    split at h
    ·rename_i hB
     simp only [Bool.and_eq_true] at hB
     have hC := Nat.le_of_ble_eq_true hB.1
     have hZ := Nat.le_of_ble_eq_true hB.2
     obtain ⟨z,hz,h2⟩ := aad h
     intro a w s
     obtain ⟨ok,s1⟩ := arS (nt := nt) (a := a) (aau.refl n ρ) hx0 (alH s.regs) (X := [F]) s.sat
     have s1' : Sat B w (IS S ρ a items x0 ++ tl S.kt (Hr ++ Z) F ρ) := by unfold tl; rw [dHa,List.append_assoc]; exact s1
     have J0 := akT (nt := nt) (aau.refl n ρ) ok hC hZ s1' (ais (l := aeT c) s.regs) s.below s.lo
     refine aeY (fun k a w =>∃ x,lpF _ k x = some z ∧ ∃ ρ',aau n ρ ρ' ∧ n ≤ (itB S items x n).2.2 ∧ Sta nt B W (dR ρ' ((itB S items x n).1 ++ (acL (aeT c) R ++ C))) (dS S.kt ρ' (Hr ++ Z) (itB S items x n).2.1 F) a w) fuel ⟨x0,hz,J0⟩ ?_
     rintro m a' w' ⟨x,hx,ρ1,a1,n1,s2⟩
     cases m with
     | zero =>cases hx
     | succ k =>
      refine aeS hm hc c (out := z) (Q := Exit.then (fun a' w' =>∃ m',m' < k + 1 ∧ ∃ x,lpF _ m' x = some z ∧ ∃ ρ',aau n ρ ρ' ∧ n ≤ (itB S items x n).2.2 ∧ Sta nt B W (dR ρ' ((itB S items x n).1 ++ (acL (aeT c) R ++ C))) (dS S.kt ρ' (Hr ++ Z) (itB S items x n).2.1 F) a' w') Q) hx ?_ ?_ ?_ a' w' (an5 s2)
      ·intro ρ2 R' n' H' ha hle hk a2 w2 s3
       obtain ⟨x',H'',hA,hx'⟩ := afC hk
       exact ⟨k,Nat.lt_succ_self k,x',hx',ahy hA (a1.trans ha n1) hC hZ s3⟩
      ·intro j ρ2 R' n' H' ha hle hk a2 w2 s3
       have hk' : (match Nat.beq j ex with | true =>itF S n (Hr ++ Z) items (fun z =>some (Sum.inl z)) | false =>fun R' n' H' =>(ke j (R' ++ acL (aeT c) R) n' (H' ++ Hr)).map (Sum.inr : α → amG S items ⊕ α)) R' n' H' = some z := hk
       cases e : Nat.beq j ex with
       | true =>
        rw [e] at hk'
        obtain rfl := Nat.eq_of_beq_eq_true e
        obtain ⟨x',H'',hA,hx'⟩ := afC hk'
        obtain rfl : .inl x' = z := Option.some.inj hx'
        obtain ⟨ρ3,a3,n3,s4⟩ := ahy hA (a1.trans ha n1) hC hZ s3
        exact he j ρ3 _ _ _ a3 n3 h2 a2 w2 (ajt s4)
       | false =>
        rw [e] at hk'
        obtain ⟨o,ho,rfl⟩ := akO hk'
        obtain rfl : o = out := Option.some.inj h2
        exact he j ρ2 _ n' _ (a1.trans ha n1) (Nat.le_trans n1 hle) ho a2 w2 (ajt s3)
      ·intro ρ2 R' n' H' ha hle hk a2 w2 s3
       obtain ⟨o,ho,rfl⟩ := akO hk
       obtain rfl : o = out := Option.some.inj h2
       exact hr ρ2 _ n' _ (a1.trans ha n1) (Nat.le_trans n1 hle) ho a2 w2 (ajt s3)
    ·cases h
   ·cases h
  ·rename_i items fuel ex _
   split at h
   ·rename_i x0 Hr hx0
    split at h
    ·rename_i hB
     simp only [Bool.and_eq_true] at hB
     have hC := Nat.le_of_ble_eq_true hB.1
     have hZ := Nat.le_of_ble_eq_true hB.2
     obtain ⟨z,hz,h2⟩ := aad h
     intro a w s
     obtain ⟨ok,s1⟩ := arS (nt := nt) (a := a) (aau.refl n ρ) hx0 (alH s.regs) (X := [F]) s.sat
     have s1' : Sat B w (IS S ρ a items x0 ++ tl S.kt (Hr ++ Z) F ρ) := by unfold tl; rw [dHa,List.append_assoc]; exact s1
     have J0 := akT (nt := nt) (aau.refl n ρ) ok hC hZ s1' (ais (l := aeT c) s.regs) s.below s.lo
     refine aeY (fun k a w =>∃ x,lpF _ k x = some z ∧ ∃ ρ',aau n ρ ρ' ∧ n ≤ (itB S items x n).2.2 ∧ Sta nt B W (dR ρ' ((itB S items x n).1 ++ (acL (aeT c) R ++ C))) (dS S.kt ρ' (Hr ++ Z) (itB S items x n).2.1 F) a w) fuel ⟨x0,hz,J0⟩ ?_
     rintro m a' w' ⟨x,hx,ρ1,a1,n1,s2⟩
     cases m with
     | zero =>cases hx
     | succ k =>
      refine aeS hm hc c (out := z) (Q := Exit.then (fun a' w' =>∃ m',m' < k + 1 ∧ ∃ x,lpF _ m' x = some z ∧ ∃ ρ',aau n ρ ρ' ∧ n ≤ (itB S items x n).2.2 ∧ Sta nt B W (dR ρ' ((itB S items x n).1 ++ (acL (aeT c) R ++ C))) (dS S.kt ρ' (Hr ++ Z) (itB S items x n).2.1 F) a' w') Q) hx ?_ ?_ ?_ a' w' (an5 s2)
      ·intro ρ2 R' n' H' ha hle hk a2 w2 s3
       obtain ⟨x',H'',hA,hx'⟩ := afC hk
       exact ⟨k,Nat.lt_succ_self k,x',hx',ahy hA (a1.trans ha n1) hC hZ s3⟩
      ·intro j ρ2 R' n' H' ha hle hk a2 w2 s3
       have hk' : (match Nat.beq j ex with | true =>itF S n (Hr ++ Z) items some | false =>fun _ _ _ =>none) R' n' H' = some z := hk
       cases e : Nat.beq j ex with
       | true =>
        rw [e] at hk'
        obtain rfl := Nat.eq_of_beq_eq_true e
        obtain ⟨x',H'',hA,hx'⟩ := afC hk'
        obtain rfl : x' = z := Option.some.inj hx'
        obtain ⟨ρ3,a3,n3,s4⟩ := ahy hA (a1.trans ha n1) hC hZ s3
        refine he j ρ3 _ _ _ a3 n3 h2 a2 w2 ⟨by rw [List.append_assoc]; exact s4.regs,s4.below,s4.lo,s4.sat.perm ?_⟩
        show (dH S.kt ρ3 (itB S items x' n).2.1 ++ (dH S.kt ρ3 (Hr ++ Z) ++ [F])).Perm (dH S.kt ρ3 ((itB S items x' n).2.1 ++ Hr) ++ (dH S.kt ρ3 Z ++ [F]))
        rw [dHa,dHa]; exact aas fun f g h1 h2 h3 =>by simp only [h1,h2,h3]; omega
       | false =>
        rw [e] at hk'
        cases hk'
      ·exact fun ρ2 R' n' H' ha hle hk =>by cases hk
    ·cases h
   ·cases h
  ·rename_i k _
   intro a w s
   refine wpIn_loop_rounds k ?_
   suffices key : ∀ (k : Nat) {R : aaO} {n : Nat} {H : S.kt.H} {ρ : Env} {a : Act} {w : World},avm S (fun R n H kn =>ev S P call hs nt c α C Z R n H kn ke kr) k R n H = some out → (∀ j,KOk S.kt Q nt B W C Z F out (.exit j) ρ n (ke j)) → KOk S.kt Q nt B W C Z F out .ret ρ n kr →
     Sta nt B W (dR ρ (R ++ C)) (dS S.kt ρ Z H F) a w → Code.roundsIn (rf none) 0 P c Q k a w from key k h he hr s
   intro k
   induction k with
   | zero =>intro R n H ρ a w h _ _ _; cases h
   | succ k ih =>
    intro R n H ρ a w h he hr s
    rw [roundsIn_succ]
    refine aeS hm hc c (Q := Exit.then (Code.roundsIn (rf none) 0 P c Q k) Q) (show ev S P call hs nt c α C Z R n H (avm S (fun R n H kn =>ev S P call hs nt c α C Z R n H kn ke kr) k) ke kr = some out from h) ?_ ?_ ?_ a w s
    ·exact fun ρ' R' n' H' ha hle hk a' w' s' =>ih hk (fun j =>(he j).from ha hle) (hr.from ha hle) s'
    ·exact fun j ρ' R' n' H' ha hle hk a' w' s' =>he j ρ' R' n' H' ha hle hk a' w' s'
    ·exact fun ρ' R' n' H' ha hle hk a' w' s' =>hr ρ' R' n' H' ha hle hk a' w' s'
  ·rename_i t vals k _
   split at h
   ·rename_i kk z hgt
    obtain ⟨m,hz,h⟩ := aoL h
    intro a w s
    refine wpIn_loop_rounds k ?_
    suffices key : ∀ (k : Nat) {R : aaO} {n : Nat} {H : S.kt.H} {ρ : Env} {a : Act} {w : World},avm S (fun R n H kn =>ev S P call hs nt c α C Z R n H kn ke kr) k R n H = some out → (∀ j,KOk S.kt Q nt B W C Z F out (.exit j) ρ n (ke j)) → KOk S.kt Q nt B W C Z F out .ret ρ n kr →
      Sta nt B W (dR ρ (R ++ C)) (dS S.kt ρ Z H F) a w → Code.roundsIn (rf none) 0 P c Q k a w from key k h he hr ⟨atg hgt hz s.regs,s.below,s.lo,s.sat⟩
    intro k
    induction k with
    | zero =>intro R n H ρ a w h _ _ _; cases h
    | succ k ih =>
     intro R n H ρ a w h he hr s
     rw [roundsIn_succ]
     refine aeS hm hc c (Q := Exit.then (Code.roundsIn (rf none) 0 P c Q k) Q) (show ev S P call hs nt c α C Z R n H (avm S (fun R n H kn =>ev S P call hs nt c α C Z R n H kn ke kr) k) ke kr = some out from h) ?_ ?_ ?_ a w s
     ·exact fun ρ' R' n' H' ha hle hk a' w' s' =>ih hk (fun j =>(he j).from ha hle) (hr.from ha hle) s'
     ·exact fun j ρ' R' n' H' ha hle hk a' w' s' =>he j ρ' R' n' H' ha hle hk a' w' s'
     ·exact fun ρ' R' n' H' ha hle hk a' w' s' =>hr ρ' R' n' H' ha hle hk a' w' s'
   ·cases h
  ·cases h
 | .rangeFunc ..,_,_,_,_,_,_,_,_,_,_,_,_,h,_,_,_ =>by cases h
 | .scope _,_,_,_,_,_,_,_,_,_,_,_,_,h,_,_,_ =>by cases h
 | .label _,_,_,_,_,_,_,_,_,_,_,_,_,h,_,_,_ =>by cases h
 | .goto _,_,_,_,_,_,_,_,_,_,_,_,_,h,_,_,_ =>by cases h
 | .refuse _,_,_,_,_,_,_,_,_,_,_,_,_,h,_,_,_ =>by cases h
end
section
variable {K : KT} {P : Program} {nt B : Nat}
theorem akn {R : aaO} {H : KT.H K} {ρ : Env} {a : Act} {w : World} {X : List aag} (r : Regs nt a (dR ρ R)) (s : Sat B w (dH K ρ H ++ X)) : ∀ {rs : List ResultVar} {l : List V},auX K P R H rs = some l →
  (rs.mapM (m := Sem) fun | .tmp t =>pure (a.tmps.getD t undef) | .cell ad t =>do loadVar t (← asAddr (a.tmps.getD ad undef))).run P w = .ok (aam ρ l) w
 | [],l,h =>by cases h; rfl
 | .tmp t :: rs,l,h =>by
  unfold auX at h
  split at h
  ·rename_i v hv
   split at h
   ·rename_i vs hvs
    cases h
    rw [List.mapM_cons]
    have := r.has _ (af3 (ρ := ρ) hv)
    rw [aaa (a := aar ρ v) (w' := w) (by simp [Array.getD_eq_getD_getElem?,this,pure]),aaa (akn r s hvs)]
    rfl
   ·cases h
  ·cases h
 | .cell t T :: rs,l,h =>by
  unfold auX at h
  split at h
  ·rename_i u hu
   split at h
   ·rename_i v hv
    split at h
    ·rename_i vs hvs
     cases h
     rw [List.mapM_cons]
     have hreg := r.has _ (af3 (ρ := ρ) hu)
     have hl : (do loadVar T (← asAddr (a.tmps.getD t undef)) : Sem Value).run P w = .ok (aar ρ v) w := by
      unfold ldV at hv
      split at hv
      ·rename_i id o
       simp only [aar] at hreg
       have e : a.tmps.getD t undef = .pointer (some ⟨(ρ.p id).1,(ρ.p id).2 + o,none⟩) := by simp [Array.getD_eq_getD_getElem?,hreg]
       rw [e]
       rw [aaa (a := (⟨(ρ.p id).1,(ρ.p id).2 + o,none⟩ : Addr)) (w' := w) rfl]
       split at hv
       ·rename_i hT
        exact aev (us := [aar ρ v]) hT rfl (fun j u hj =>by
         cases j with
         | zero =>simp at hj; subst hj; exact aof hv s
         | succ j =>simp at hj) rfl
       ·rename_i k hT
        simp only [Option.map_eq_some_iff] at hv
        obtain ⟨l,hl,rfl⟩ := hv
        obtain ⟨h1,h2⟩ := aoe hl s
        exact aev hT (by rw [aaH]; simpa using h1) h2 rfl
       ·cases hv
      ·cases hv
     rw [aaa hl,aaa (akn r s hvs)]
     rfl
    ·cases h
   ·cases h
  ·cases h
theorem an1 {ρ : Env} (l : List V) : an0 (aam ρ l) = aar ρ (avn l) := by
 match l with
 | [] =>rfl
 | [v] =>rfl
 | _ :: _ :: _ =>rfl
theorem aiq {fn : Func} {R : aaO} {H : KT.H K} {ρ : Env} {a : Act} {w : World} {X : List aag} {l : List V} (r : Regs nt a (dR ρ R)) (s : Sat B w (dH K ρ H ++ X)) (h : auX K P R H fn.results.toList = some l) : (results fn a.tmps).run P w = .ok (aar ρ (avn l)) w := by
 unfold results
 have e : fn.results = fn.results.toList.toArray := by simp
 rw [e,← an1]
 simp only [List.mapM_toArray]
 rw [aaa (a := (aam ρ l).toArray) (w' := w) (by
  rw [map_eq_pure_bind]
  exact aaa (akn r s h))]
 match l with
 | [] =>rfl
 | [v] =>rfl
 | _ :: _ :: _ =>rfl
end
def avZ : Nat → List V → aaO
 | _,[] =>[]
 | i,v :: l =>(i,v) :: avZ (i + 1) l
section
variable (S : Shp) (P : Program)
noncomputable def evF (call : aha S.kt) (hs : List (Nat × Hint)) {α : Type} (fn : Func) (vs : List V) (n : Nat) (Z H : S.kt.H) (k : Nat → S.kt.H → V → Option α) : Option α :=
 match fn.body with
 | some c =>match Nat.ble vs.length fn.ntmps with
  | true =>ev S P call hs fn.ntmps c α [] Z (avZ 0 vs) n H
   (fun R n H =>match auX S.kt P R H fn.results.toList with | some l =>k n H (avn l) | none =>none) (fun _ _ _ _ =>none)
   (fun R n H =>match auX S.kt P R H fn.results.toList with | some l =>k n H (avn l) | none =>none)
  | false =>none
 | none =>none
noncomputable def inl (tb : List (Nat × Func)) (hs : Nat → List (Nat × Hint)) (known : aha S.kt) : Nat → aha S.kt
 | 0 =>known
 | m + 1 =>fun α f vs n Z H k =>match get tb f with
  | some fn =>match Nat.blt f aeu with
   | true =>evF S P (inl tb hs known m) (hs f) fn vs n Z H k
   | false =>none
  | none =>known α f vs n Z H k
end
section
variable {S : Shp} {P : Program} {B : Nat} {W : World} {hs : List (Nat × Hint)}
theorem alI : ∀ (l : List V) (i : Nat) (ρ : Env) (p : Nat × Value),p ∈ dR ρ (avZ i l) → i ≤ p.1 ∧ (aam ρ l)[p.1 - i]? = some p.2
 | [],_,_,_,h =>by cases h
 | v :: l,i,ρ,p,h =>by
  rcases List.mem_cons.1 h with e | e
  ·subst e
   exact ⟨Nat.le_refl _,by simp [aam]⟩
  ·obtain ⟨h1,h2⟩ := alI l (i + 1) ρ p e
   refine ⟨by omega,?_⟩
   obtain ⟨m,hm⟩ : ∃ m,p.1 - i = m + 1 := ⟨p.1 - (i + 1),by omega⟩
   rw [hm,aam,List.getElem?_cons_succ,← h2]
   congr 1; omega
theorem avd (hm : P.follows .mixedOrders = true) {call : aha S.kt} (hc : ag9 S.kt P B W call) {α : Type} {fid : FuncId} {fn : Func} (hf : P.funcs[fid]? = some fn) {vs : List V} {n : Nat} {Z H : S.kt.H} {k : Nat → S.kt.H → V → Option α} {out : α} (h : evF S P call hs fn vs n Z H k = some out) {F : aag} {ρ : Env} {w : World}
  (hw : Cls B W (dS S.kt ρ Z H F) w) : Calls P fid (aam ρ vs).toArray w fun e w' =>∃ x : Nx S.kt,(aau n ρ x.ρ ∧ n ≤ x.n ∧ k x.n x.H x.v = some out) ∧ e = .returned (aar x.ρ x.v) ∧ Cls B W (dS S.kt x.ρ Z x.H F) w' := by
 unfold evF at h
 split at h
 ·rename_i c hb
  split at h
  ·rename_i hle
   have hle' := Nat.le_of_ble_eq_true hle
   refine calls_of_wp hf hb (wpIn_wide (n := 0).1 ?_)
   have key := aeS (nt := fn.ntmps) (B := B) (W := W) (F := F) hm hc c (Q := bodyPost P fn fun e w' =>∃ x : Nx S.kt,(aau n ρ x.ρ ∧ n ≤ x.n ∧ k x.n x.H x.v = some out) ∧ e = .returned (aar x.ρ x.v) ∧ Cls B W (dS S.kt x.ρ Z x.H F) w') (ρ := ρ) h ?_ ?_ ?_
   ·refine key _ w (hw.st ⟨by simp [aaH]; omega,rfl,fun p hp =>?_⟩)
    rw [List.append_nil] at hp
    obtain ⟨_,h2⟩ := alI vs 0 ρ p hp
    rw [Nat.sub_zero] at h2
    have hlt := (List.getElem?_eq_some_iff.1 h2).1
    rw [Array.getElem?_append_left (by simpa using hlt)]
    simpa using h2
   ·intro ρ' R' n' H' ha hn hk a w' s
    rw [List.append_nil] at s
    dsimp only at hk
    split at hk
    ·rename_i l hl
     exact ⟨s.regs.defers,_,aiq s.regs s.sat hl,⟨ρ',n',H',avn l⟩,⟨ha,hn,hk⟩,rfl,s.cls⟩
    ·cases hk
   ·exact fun j ρ' R' n' H' ha hn hk =>by cases hk
   ·intro ρ' R' n' H' ha hn hk a w' s
    rw [List.append_nil] at s
    dsimp only at hk
    split at hk
    ·rename_i l hl
     exact bodyPost_ret (aiq s.regs s.sat hl) s.regs.defers ⟨⟨ρ',n',H',avn l⟩,⟨ha,hn,hk⟩,rfl,s.cls⟩
    ·cases hk
  ·cases h
 ·cases h
theorem au9 (hm : P.follows .mixedOrders = true) {tb : List (Nat × Func)} {hs : Nat → List (Nat × Hint)} (ht : ∀ p ∈ tb,P.funcs[p.1]? = some p.2) {known : aha S.kt} (hk : ag9 S.kt P B W known) : ∀ m,ag9 S.kt P B W (inl S P tb hs known m)
 | 0 =>hk
 | m + 1 =>fun α f vs n Z H k out h h1 h2 h3 F ρ w hw =>by
  unfold inl at h
  split at h
  ·rename_i fn hg
   split at h
   ·rename_i hb
    rw [adh hb]
    exact avd hm (au9 hm ht hk m) (ht _ (anv hg)) h hw
   ·cases h
  ·exact hk α f vs n Z H k out h h1 h2 h3 F ρ w hw
end
class Tb where
 tb : Nat → Int
 rg : ∀ i,0 ≤ tb i ∧ tb i ≤ 255
def ay9 [_T : Tb] (_B : Nat) (_W : World) : Prop := True
inductive Pk where
 | sh (s : Sh)
 | val (c : Nat)
 | ref (c : Nat)
 | mch
 | lent (c : Nat)
inductive Rk where
 | sh (s : Sh)
 | val (c : Nat)
section
variable (S : Shp)
def pkT : Pk → Type
 | .sh s =>shT S.T S.M s
 | .val c =>S.T c
 | .ref c =>S.T c
 | .mch =>S.M
 | .lent c =>List (S.T c)
def ao4 : List Pk → Type
 | [] =>Unit
 | p :: l =>pkT S p × ao4 l
def rkT : Rk → Type
 | .sh s =>shT S.T S.M s
 | .val c =>S.T c
def ao3 : List Rk → Type
 | [] =>Unit
 | p :: l =>rkT S p × ao3 l
def alk : List Pk → Type
 | [] =>Unit
 | .ref c :: l =>S.T c × alk l
 | .mch :: l =>S.M × alk l
 | .lent c :: l =>List (S.T c) × alk l
 | .sh _ :: l =>alk l
 | .val _ :: l =>alk l
def as8 (c : Nat) (x : S.T c) (v : Value) : aag := fun h =>∃ us : List Value,v = .agg us.toArray ∧ abk (fsS (pcS S.kt) (S.kt.vw c x) us) h
def aj9 : (ps : List Pk) → ao4 S ps → List Value → List aag
 | [],_,[] =>[]
 | .sh s :: ps,x,v :: vs =>pcS S.kt (vw1 S.T S.M s x.1) v :: aj9 ps x.2 vs
 | .val c :: ps,x,v :: vs =>as8 S c x.1 v :: aj9 ps x.2 vs
 | .ref c :: ps,x,v :: vs =>pcS S.kt (.own c x.1) v :: aj9 ps x.2 vs
 | .mch :: ps,x,v :: vs =>pcS S.kt (.mach x.1) v :: aj9 ps x.2 vs
 | .lent c :: ps,x,v :: vs =>pcS S.kt (.row c x.1) v :: aj9 ps x.2 vs
 | _,_,_ =>[fun _ =>False]
def aeV : (ps : List Pk) → alk S ps → List Value → List aag
 | [],_,_ =>[]
 | .sh _ :: ps,x,_ :: vs =>aeV ps x vs
 | .val _ :: ps,x,_ :: vs =>aeV ps x vs
 | .ref c :: ps,x,v :: vs =>pcS S.kt (.own c x.1) v :: aeV ps x.2 vs
 | .mch :: ps,x,v :: vs =>pcS S.kt (.mach x.1) v :: aeV ps x.2 vs
 | .lent c :: ps,x,v :: vs =>pcS S.kt (.row c x.1) v :: aeV ps x.2 vs
 | _ :: _,_,[] =>[]
def ap9 : (rs : List Rk) → ao3 S rs → List Value → List aag
 | [],_,[] =>[]
 | .sh s :: rs,x,v :: vs =>pcS S.kt (vw1 S.T S.M s x.1) v :: ap9 rs x.2 vs
 | .val c :: rs,x,v :: vs =>as8 S c x.1 v :: ap9 rs x.2 vs
 | _,_,_ =>[fun _ =>False]
def auR [Tb] (P : Program) (f : FuncId) (ps : List Pk) (rs : List Rk) (spec : ao4 S ps → Option (ao3 S rs × alk S ps)) : Prop :=
 ∀ x out,spec x = some out → ∀ B W,ay9 B W → ∀ vs F w,Cls B W (aj9 S ps x vs ++ [F]) w → aek P f vs.toArray w fun e w' =>∃ us,e = .returned (an0 us) ∧ Cls B W (ap9 S rs out.1 us ++ (aeV S ps out.2 vs ++ [F])) w'
def cin : (ps : List Pk) → ao4 S ps → Nat → List V × List (Nat × Ch S.T S.M) × Nat
 | [],_,n =>([],[],n)
 | .sh s :: ps,x,n =>((opF S.kt.vw n (.f (vw1 S.T S.M s x.1))).1 :: (cin ps x.2 (n + 1)).1,chL S n (opF S.kt.vw n (.f (vw1 S.T S.M s x.1))).2 ++ (cin ps x.2 (n + 1)).2.1,(cin ps x.2 (n + 1)).2.2)
 | .ref c :: ps,x,n =>(.ptr n 0 :: (cin ps x.2 (n + 1)).1,(n,.cells ((S.kt.vw c x.1).map .f)) :: (cin ps x.2 (n + 1)).2.1,(cin ps x.2 (n + 1)).2.2)
 | .mch :: ps,x,n =>(.mc n :: (cin ps x.2 (n + 1)).1,(n,.mach x.1) :: (cin ps x.2 (n + 1)).2.1,(cin ps x.2 (n + 1)).2.2)
 | .lent c :: ps,x,n =>(.sl n :: (cin ps x.2 (n + 1)).1,(n,.row c x.1) :: (cin ps x.2 (n + 1)).2.1,(cin ps x.2 (n + 1)).2.2)
 | .val c :: ps,x,n =>(.agg (opL S n (S.kt.vw c x.1)).1 :: (cin ps x.2 (n + S.kt.sz c)).1,(opL S n (S.kt.vw c x.1)).2 ++ (cin ps x.2 (n + S.kt.sz c)).2.1,(cin ps x.2 (n + S.kt.sz c)).2.2)
def amJ : (rs : List Rk) → ao3 S rs → Nat → List V × List (Nat × Ch S.T S.M) × Nat
 | [],_,n =>([],[],n)
 | .sh s :: rs,x,n =>((opF S.kt.vw n (.f (vw1 S.T S.M s x.1))).1 :: (amJ rs x.2 (n + 1)).1,chL S n (opF S.kt.vw n (.f (vw1 S.T S.M s x.1))).2 ++ (amJ rs x.2 (n + 1)).2.1,(amJ rs x.2 (n + 1)).2.2)
 | .val c :: rs,x,n =>(.agg (opL S n (S.kt.vw c x.1)).1 :: (amJ rs x.2 (n + S.kt.sz c)).1,(opL S n (S.kt.vw c x.1)).2 ++ (amJ rs x.2 (n + S.kt.sz c)).2.1,(amJ rs x.2 (n + S.kt.sz c)).2.2)
end
section
variable {S : Shp} {B : Nat} {w : World}
theorem amW {c : Nat} {x : S.T c} {v : Value} {L : List aag} (s : Sat B w (as8 S c x v :: L)) : ∃ us : List Value,v = .agg us.toArray ∧ Sat B w (fsS (pcS S.kt) (S.kt.vw c x) us ++ L) := by
 obtain ⟨h,Hh,k1,k2,a,e,⟨us,h1,h2⟩,hL⟩ := s
 exact ⟨us,h1,h,Hh,aao.2 ⟨k1,k2,a,e,h2,hL⟩⟩
theorem aj2 : ∀ {ps : List Pk} {x : ao4 S ps} {n : Nat} {vs : List Value} {ρ : Env} {X : Env → List aag},(∀ ρ ρ',aau n ρ ρ' → X ρ = X ρ') → Sat B w (aj9 S ps x vs ++ X ρ) →
  ∃ ρ',aau n ρ ρ' ∧ vs = aam ρ' (cin S ps x n).1 ∧ Sat B w (dH S.kt ρ' (cin S ps x n).2.1 ++ X ρ')
 | [],x,n,[],ρ,X,hX,s =>⟨ρ,aau.refl _ _,rfl,s⟩
 | [],x,n,_ :: _,ρ,X,hX,s =>aaR s
 | .sh s0 :: ps,x,n,[],ρ,X,hX,s =>aaR s
 | .val c :: ps,x,n,[],ρ,X,hX,s =>aaR s
 | .ref c :: ps,x,n,[],ρ,X,hX,s =>aaR s
 | .mch :: ps,x,n,[],ρ,X,hX,s =>aaR s
 | .lent c :: ps,x,n,[],ρ,X,hX,s =>aaR s
 | .sh s0 :: ps,x,n,v :: vs,ρ,X,hX,s =>by
  obtain ⟨ρ1,a1,e1,s1⟩ := aiI (n := n) (f := vw1 S.T S.M s0 x.1) (Y := aj9 S ps x.2 vs) hX s
  obtain ⟨ρ2,a2,e2,s2⟩ := aj2 (n := n + 1) (apT (f := vw1 S.T S.M s0 x.1) hX) s1
  have htop := (aet (K := S.kt) (n := n) (f := .f (vw1 S.T S.M s0 x.1)) (Nat.zero_le _)).1
  refine ⟨ρ2,a1.trans a2 (Nat.le_succ n),?_,?_⟩
  ·simp only [cin,aam]
   rw [e1,← e2,aa5 a2 _ htop]
  ·simp only [cin,dHa]
   refine s2.perm ?_
   rw [List.append_assoc]
   exact ace _ _ _
 | .ref c :: ps,x,n,v :: vs,ρ,X,hX,s =>by
  obtain ⟨ρ1,a1,e1,s1⟩ := aiI (n := n) (f := .own c x.1) (Y := aj9 S ps x.2 vs) hX s
  obtain ⟨ρ2,a2,e2,s2⟩ := aj2 (n := n + 1) (apT (f := .own c x.1) hX) s1
  have htop := (aet (K := S.kt) (n := n) (f := .f (.own c x.1)) (Nat.zero_le _)).1
  refine ⟨ρ2,a1.trans a2 (Nat.le_succ n),?_,?_⟩
  ·simp only [cin,aam]
   rw [e1,← e2,aa5 a2 _ htop]
   rfl
  ·have : dH S.kt ρ2 (cin S (.ref c :: ps) x n).2.1 = dH S.kt ρ2 (chL S n (opF S.kt.vw n (.f (.own c x.1))).2) ++ dH S.kt ρ2 (cin S ps x.2 (n + 1)).2.1 := rfl
   rw [this]
   refine s2.perm ?_
   rw [List.append_assoc]
   exact ace _ _ _
 | .mch :: ps,x,n,v :: vs,ρ,X,hX,s =>by
  obtain ⟨ρ1,a1,e1,s1⟩ := aiI (n := n) (f := .mach x.1) (Y := aj9 S ps x.2 vs) hX s
  obtain ⟨ρ2,a2,e2,s2⟩ := aj2 (n := n + 1) (apT (f := .mach x.1) hX) s1
  have htop := (aet (K := S.kt) (n := n) (f := .f (.mach x.1)) (Nat.zero_le _)).1
  refine ⟨ρ2,a1.trans a2 (Nat.le_succ n),?_,?_⟩
  ·simp only [cin,aam]
   rw [e1,← e2,aa5 a2 _ htop]
   rfl
  ·have : dH S.kt ρ2 (cin S (.mch :: ps) x n).2.1 = dH S.kt ρ2 (chL S n (opF S.kt.vw n (.f (.mach x.1))).2) ++ dH S.kt ρ2 (cin S ps x.2 (n + 1)).2.1 := rfl
   rw [this]
   refine s2.perm ?_
   rw [List.append_assoc]
   exact ace _ _ _
 | .lent c :: ps,x,n,v :: vs,ρ,X,hX,s =>by
  obtain ⟨ρ1,a1,e1,s1⟩ := aiI (n := n) (f := .row c x.1) (Y := aj9 S ps x.2 vs) hX s
  obtain ⟨ρ2,a2,e2,s2⟩ := aj2 (n := n + 1) (apT (f := .row c x.1) hX) s1
  have htop := (aet (K := S.kt) (n := n) (f := .f (.row c x.1)) (Nat.zero_le _)).1
  refine ⟨ρ2,a1.trans a2 (Nat.le_succ n),?_,?_⟩
  ·simp only [cin,aam]
   rw [e1,← e2,aa5 a2 _ htop]
   rfl
  ·have : dH S.kt ρ2 (cin S (.lent c :: ps) x n).2.1 = dH S.kt ρ2 (chL S n (opF S.kt.vw n (.f (.row c x.1))).2) ++ dH S.kt ρ2 (cin S ps x.2 (n + 1)).2.1 := rfl
   rw [this]
   refine s2.perm ?_
   rw [List.append_assoc]
   exact ace _ _ _
 | .val c :: ps,x,n,v :: vs,ρ,X,hX,s =>by
  obtain ⟨us,hv,s0⟩ := amW s
  obtain ⟨ρ1,a1,e1,s1⟩ := arx (n := n) (l := S.kt.vw c x.1) (Y := aj9 S ps x.2 vs) hX s0
  obtain ⟨ρ2,a2,e2,s2⟩ := aj2 (n := n + S.kt.sz c) (ayr (S.kt.sz_ok c x.1) hX) s1
  refine ⟨ρ2,a1.trans a2 (Nat.le_add_right ..),?_,?_⟩
  ·simp only [cin,aam,aar]
   rw [hv,e1,← e2,(agO (a2.le (Nat.le_of_eq (congrArg (n + ·) (S.kt.sz_ok c x.1))))).1]
  ·simp only [cin,dHa]
   refine s2.perm ?_
   rw [List.append_assoc]
   exact ace _ _ _
theorem anC : ∀ {rs : List Rk} {x : ao3 S rs} {n : Nat} {vs : List Value} {ρ : Env} {X : Env → List aag},(∀ ρ ρ',aau n ρ ρ' → X ρ = X ρ') → Sat B w (ap9 S rs x vs ++ X ρ) →
  ∃ ρ',aau n ρ ρ' ∧ vs = aam ρ' (amJ S rs x n).1 ∧ Sat B w (dH S.kt ρ' (amJ S rs x n).2.1 ++ X ρ')
 | [],x,n,[],ρ,X,hX,s =>⟨ρ,aau.refl _ _,rfl,s⟩
 | [],x,n,_ :: _,ρ,X,hX,s =>aaR s
 | .sh s0 :: ps,x,n,[],ρ,X,hX,s =>aaR s
 | .val c :: ps,x,n,[],ρ,X,hX,s =>aaR s
 | .sh s0 :: ps,x,n,v :: vs,ρ,X,hX,s =>by
  obtain ⟨ρ1,a1,e1,s1⟩ := aiI (n := n) (f := vw1 S.T S.M s0 x.1) (Y := ap9 S ps x.2 vs) hX s
  obtain ⟨ρ2,a2,e2,s2⟩ := anC (n := n + 1) (apT (f := vw1 S.T S.M s0 x.1) hX) s1
  have htop := (aet (K := S.kt) (n := n) (f := .f (vw1 S.T S.M s0 x.1)) (Nat.zero_le _)).1
  refine ⟨ρ2,a1.trans a2 (Nat.le_succ n),?_,?_⟩
  ·simp only [amJ,aam]
   rw [e1,← e2,aa5 a2 _ htop]
  ·simp only [amJ,dHa]
   refine s2.perm ?_
   rw [List.append_assoc]
   exact ace _ _ _
 | .val c :: ps,x,n,v :: vs,ρ,X,hX,s =>by
  obtain ⟨us,hv,s0⟩ := amW s
  obtain ⟨ρ1,a1,e1,s1⟩ := arx (n := n) (l := S.kt.vw c x.1) (Y := ap9 S ps x.2 vs) hX s0
  obtain ⟨ρ2,a2,e2,s2⟩ := anC (n := n + S.kt.sz c) (ayr (S.kt.sz_ok c x.1) hX) s1
  refine ⟨ρ2,a1.trans a2 (Nat.le_add_right ..),?_,?_⟩
  ·simp only [amJ,aam,aar]
   rw [hv,e1,← e2,(agO (a2.le (Nat.le_of_eq (congrArg (n + ·) (S.kt.sz_ok c x.1))))).1]
  ·simp only [amJ,dHa]
   refine s2.perm ?_
   rw [List.append_assoc]
   exact ace _ _ _
end
section
variable (S : Shp)
def ay6 (H : S.kt.H) (c : Nat) (v : V) : Option (S.T c × S.kt.H) :=
 match v with
 | .agg l =>match amL S.kt (asm S.kt) H (S.kt.vw c (S.kt.df c)) (l.map .v) with
  | some (fs,H') =>match S.kt.bk c fs with
   | some x =>some (x,H')
   | none =>none
  | none =>none
 | _ =>none
def axl : (rs : List Rk) → S.kt.H → List V → Option (ao3 S rs × S.kt.H)
 | [],H,[] =>some ((),H)
 | .sh s :: rs,H,v :: vs =>match asR S H s v with
  | some (x,H1) =>match axl rs H1 vs with
   | some (r,H2) =>some ((x,r),H2)
   | none =>none
  | none =>none
 | .val c :: rs,H,v :: vs =>match ay6 S H c v with
  | some (x,H1) =>match axl rs H1 vs with
   | some (r,H2) =>some ((x,r),H2)
   | none =>none
  | none =>none
 | _,_,_ =>none
def as2 : (ps : List Pk) → Nat → S.kt.H → Option (alk S ps × S.kt.H)
 | [],_,H =>some ((),H)
 | .sh _ :: ps,n,H =>as2 ps (n + 1) H
 | .val c :: ps,n,H =>as2 ps (n + S.kt.sz c) H
 | .ref c :: ps,n,H =>match asR S H (.own c) (.ptr n 0) with
  | some (x,H1) =>match as2 ps (n + 1) H1 with
   | some (r,H2) =>some ((x,r),H2)
   | none =>none
  | none =>none
 | .mch :: ps,n,H =>match asR S H .mach (.mc n) with
  | some (x,H1) =>match as2 ps (n + 1) H1 with
   | some (r,H2) =>some ((x,r),H2)
   | none =>none
  | none =>none
 | .lent c :: ps,n,H =>match asR S H (.row c) (.sl n) with
  | some (x,H1) =>match as2 ps (n + 1) H1 with
   | some (r,H2) =>some ((x,r),H2)
   | none =>none
  | none =>none
def azf : List Rk → V → Option (List V)
 | [_],v =>some [v]
 | _,.tup l =>match Nat.beq l.length 1 with
  | true =>none
  | false =>some l
 | _,_ =>none
def azq (ps : List Pk) (rs : List Rk) : Nat → S.kt.H → V → Option (ao3 S rs × alk S ps) := fun _ H v =>
 match azf rs v with
 | some l =>match axl S rs (ay2 S.kt H) l with
  | some (r,H1) =>match as2 S ps 0 H1 with
   | some (o,_) =>some (r,o)
   | none =>none
  | none =>none
 | none =>none
end
section
variable {S : Shp} {B : Nat} {w : World}
theorem asP {H H' : S.kt.H} {c : Nat} {v : V} {x : S.T c} (h : ay6 S H c v = some (x,H')) {ρ : Env} {X : List aag} (s : Sat B w (dH S.kt ρ H ++ X)) : Sat B w (as8 S c x (aar ρ v) :: (dH S.kt ρ H' ++ X)) := by
 unfold ay6 at h
 split at h
 ·rename_i l
  split at h
  ·rename_i fs H1 hl
   split at h
   ·rename_i y hy
    cases h
    have s1 := aeI ajb hl (ρ := ρ) (X := X) (vs := aam ρ l) (s.imp fun k hk =>aez hk)
    rw [← S.kt.bk_ok _ _ _ hy] at s1
    refine s1.imp fun k hk =>?_
    obtain ⟨k1,k2,a,e,g1,g2⟩ := aao.1 hk
    exact ⟨k1,k2,a,e,⟨aam ρ l,rfl,g1⟩,g2⟩
   ·cases h
  ·cases h
 ·cases h
theorem anV : ∀ {rs : List Rk} {H H' : S.kt.H} {vs : List V} {r : ao3 S rs},axl S rs H vs = some (r,H') → ∀ {ρ : Env} {X : List aag},Sat B w (dH S.kt ρ H ++ X) → Sat B w (ap9 S rs r (aam ρ vs) ++ (dH S.kt ρ H' ++ X))
 | [],H,H',[],r,h,ρ,X,s =>by cases h; exact s
 | [],_,_,_ :: _,_,h,_,_,_ =>by cases h
 | .sh s0 :: rs,H,H',[],r,h,_,_,_ =>by cases h
 | .val c :: rs,H,H',[],r,h,_,_,_ =>by cases h
 | .sh s0 :: rs,H,H',v :: vs,r,h,ρ,X,s =>by
  unfold axl at h
  split at h
  ·rename_i x H1 h1
   split at h
   ·rename_i r' H2 h2
    cases h
    have s1 := aeJ h1 s
    have s2 := anV h2 (X := pcS S.kt (vw1 S.T S.M s0 x) (aar ρ v) :: X) (s1.perm (List.perm_middle (l₁ := dH S.kt ρ H1)).symm)
    exact s2.perm (afM _ _ _ _)
   ·cases h
  ·cases h
 | .val c :: rs,H,H',v :: vs,r,h,ρ,X,s =>by
  unfold axl at h
  split at h
  ·rename_i x H1 h1
   split at h
   ·rename_i r' H2 h2
    cases h
    have s1 := asP h1 s
    have s2 := anV h2 (X := as8 S c x (aar ρ v) :: X) (s1.perm (List.perm_middle (l₁ := dH S.kt ρ H1)).symm)
    exact s2.perm (afM _ _ _ _)
   ·cases h
  ·cases h
def ajc (S : Shp) (ρ : Env) : List Pk → Nat → List Value → Prop
 | [],_,_ =>True
 | .sh _ :: ps,n,_ :: vs =>ajc S ρ ps (n + 1) vs
 | .val c :: ps,n,_ :: vs =>ajc S ρ ps (n + S.kt.sz c) vs
 | .ref _ :: ps,n,v :: vs =>v = aar ρ (.ptr n 0) ∧ ajc S ρ ps (n + 1) vs
 | .mch :: ps,n,v :: vs =>v = aar ρ (.mc n) ∧ ajc S ρ ps (n + 1) vs
 | .lent _ :: ps,n,v :: vs =>v = aar ρ (.sl n) ∧ ajc S ρ ps (n + 1) vs
 | _ :: _,_,[] =>False
theorem ahH : ∀ {ps : List Pk} {n : Nat} {H H' : S.kt.H} {o : alk S ps},as2 S ps n H = some (o,H') → ∀ {ρ : Env} {vs : List Value} {X : List aag},ajc S ρ ps n vs → Sat B w (dH S.kt ρ H ++ X) → Sat B w (aeV S ps o vs ++ (dH S.kt ρ H' ++ X))
 | [],n,H,H',o,h,ρ,vs,X,_,s =>by
  cases h
  cases vs <;> exact s
 | _ :: _,n,H,H',o,h,ρ,[],X,ha,s =>by
  rename_i p ps
  cases p <;> exact ha.elim
 | .sh _ :: ps,n,H,H',o,h,ρ,v :: vs,X,ha,s =>ahH (ps := ps) (n := n + 1) h ha s
 | .val c :: ps,n,H,H',o,h,ρ,v :: vs,X,ha,s =>ahH (ps := ps) (n := n + S.kt.sz c) h ha s
 | .ref c :: ps,n,H,H',o,h,ρ,v :: vs,X,ha,s =>by
  unfold as2 at h
  split at h
  ·rename_i x H1 h1
   split at h
   ·rename_i r H2 h2
    cases h
    have s1 := aeJ h1 s
    have s2 := ahH h2 (X := pcS S.kt (vw1 S.T S.M (.own c) x) (aar ρ (.ptr n 0)) :: X) ha.2 (s1.perm (List.perm_middle (l₁ := dH S.kt ρ H1)).symm)
    have s3 := s2.perm (afM _ _ _ _)
    rw [← ha.1] at s3
    exact s3
   ·cases h
  ·cases h
 | .mch :: ps,n,H,H',o,h,ρ,v :: vs,X,ha,s =>by
  unfold as2 at h
  split at h
  ·rename_i x H1 h1
   split at h
   ·rename_i r H2 h2
    cases h
    have s1 := aeJ h1 s
    have s2 := ahH h2 (X := pcS S.kt (vw1 S.T S.M .mach x) (aar ρ (.mc n)) :: X) ha.2 (s1.perm (List.perm_middle (l₁ := dH S.kt ρ H1)).symm)
    have s3 := s2.perm (afM _ _ _ _)
    rw [← ha.1] at s3
    exact s3
   ·cases h
  ·cases h
 | .lent c :: ps,n,H,H',o,h,ρ,v :: vs,X,ha,s =>by
  unfold as2 at h
  split at h
  ·rename_i x H1 h1
   split at h
   ·rename_i r H2 h2
    cases h
    have s1 := aeJ h1 s
    have s2 := ahH h2 (X := pcS S.kt (vw1 S.T S.M (.row c) x) (aar ρ (.sl n)) :: X) ha.2 (s1.perm (List.perm_middle (l₁ := dH S.kt ρ H1)).symm)
    have s3 := s2.perm (afM _ _ _ _)
    rw [← ha.1] at s3
    exact s3
   ·cases h
  ·cases h
theorem afH : ∀ {ps : List Pk} {x : ao4 S ps} {n : Nat} {ρ ρ' : Env} {vs : List Value},vs = aam ρ (cin S ps x n).1 → aau (cin S ps x n).2.2 ρ ρ' → ajc S ρ' ps n vs ∧ n ≤ (cin S ps x n).2.2
 | [],x,n,ρ,ρ',vs,h,a =>⟨trivial,Nat.le_refl _⟩
 | .sh s0 :: ps,x,n,ρ,ρ',vs,h,a =>by
  subst h
  obtain ⟨h1,h2⟩ := afH (ps := ps) (x := x.2) (n := n + 1) rfl a
  exact ⟨h1,Nat.le_trans (Nat.le_succ n) h2⟩
 | .val c :: ps,x,n,ρ,ρ',vs,h,a =>by
  subst h
  obtain ⟨h1,h2⟩ := afH (ps := ps) (x := x.2) (n := n + S.kt.sz c) rfl a
  exact ⟨h1,Nat.le_trans (Nat.le_add_right ..) h2⟩
 | .ref c :: ps,x,n,ρ,ρ',vs,h,a =>by
  subst h
  obtain ⟨h1,h2⟩ := afH (ps := ps) (x := x.2) (n := n + 1) rfl a
  refine ⟨⟨?_,h1⟩,Nat.le_trans (Nat.le_succ n) h2⟩
  exact aa5 (v := .ptr n 0) (n := n + 1) (a.le h2) (Nat.le_refl _)
 | .mch :: ps,x,n,ρ,ρ',vs,h,a =>by
  subst h
  obtain ⟨h1,h2⟩ := afH (ps := ps) (x := x.2) (n := n + 1) rfl a
  refine ⟨⟨?_,h1⟩,Nat.le_trans (Nat.le_succ n) h2⟩
  exact aa5 (v := .mc n) (n := n + 1) (a.le h2) (Nat.le_refl _)
 | .lent c :: ps,x,n,ρ,ρ',vs,h,a =>by
  subst h
  obtain ⟨h1,h2⟩ := afH (ps := ps) (x := x.2) (n := n + 1) rfl a
  refine ⟨⟨?_,h1⟩,Nat.le_trans (Nat.le_succ n) h2⟩
  exact aa5 (v := .sl n) (n := n + 1) (a.le h2) (Nat.le_refl _)
theorem atu {rs : List Rk} {v : V} {l : List V} (h : azf rs v = some l) (ρ : Env) : aar ρ v = an0 (aam ρ l) := by
 unfold azf at h
 split at h
 ·cases h; rfl
 ·split at h
  ·cases h
  ·rename_i l' hne
   cases h
   match l,hne with
   | [],_ =>rfl
   | [_],hne =>cases hne
   | _ :: _ :: _,_ =>rfl
 ·cases h
theorem auD [Tb] {P : Program} (hm : P.follows .mixedOrders = true) {f : FuncId} {fn : Func} (hf : P.funcs[f]? = some fn) {call : aha S.kt} (hc : ∀ B W,ay9 B W → ag9 S.kt P B W call) {hs : List (Nat × Hint)} {ps : List Pk} {rs : List Rk} {spec : ao4 S ps → Option (ao3 S rs × alk S ps)}
  (h : ∀ x,evF S P call hs fn (cin S ps x 0).1 (cin S ps x 0).2.2 [] (cin S ps x 0).2.1 (azq S ps rs) = spec x) (hb : Nat.blt f aeu = true := by rfl) : auR S P f ps rs spec := by
 intro x out hx B W hg vs F w hw
 obtain ⟨ρ,_,e1,s1⟩ := aj2 (n := 0) (ρ := ⟨fun _ =>(0,0),fun _ =>⟨none,0,0⟩,fun _ =>undef⟩) (X := fun _ =>[F]) (fun _ _ _ =>rfl) hw.2.2
 have s2 : Cls B W (dS S.kt ρ [] (cin S ps x 0).2.1 F) w := ⟨hw.1,hw.2.1,s1⟩
 have h1 := avd hm (hc B W hg) hf ((h x).trans hx) s2
 rw [← e1] at h1
 rw [adh hb]
 refine h1.mono fun e w' ⟨y,⟨ha,hn,hk⟩,he,hb1,hb2,hs⟩ =>?_
 unfold azq at hk
 split at hk
 ·rename_i l hl
  split at hk
  ·rename_i r H1 hr
   split at hk
   ·rename_i o H2 ho
    cases hk
    have s3 := anV hr (X := [F]) (anG hs)
    have s4 : Sat B w' (dH S.kt y.ρ H1 ++ (ap9 S rs r (aam y.ρ l) ++ [F])) := s3.perm (ace _ _ _)
    have s5 := ahH ho (afH e1 ha).1 s4
    refine ⟨aam y.ρ l,?_,hb1,hb2,?_⟩
    ·rw [he,atu hl]
    ·have s6 := s5.perm (ace (aeV S ps o vs) (dH S.kt y.ρ H2) (ap9 S rs r (aam y.ρ l) ++ [F]))
     have s7 : Sat B w' (aeV S ps o vs ++ (ap9 S rs r (aam y.ρ l) ++ [F])) := s6.imp fun _ =>ada
     exact s7.perm (ace _ _ _)
   ·cases hk
  ·cases hk
 ·cases hk
end
inductive RemC (T : Nat → Type) (M : Type) (c : Nat) where
 | cells (id : Nat) (pre post : List (Fd T M))
 | elt (j : Nat) (i : Int) (xs : List (T c))
section
variable (S : Shp)
def asW (H : S.kt.H) (c : Nat) (v : V) : Option (S.T c × S.kt.H × RemC S.T S.M c) :=
 match v with
 | .ptr id o =>match get H id with
  | some (.cells fs) =>match Nat.ble (o + S.kt.sz c) fs.length with
   | true =>match amL S.kt (asm S.kt) (del H id) (S.kt.vw c (S.kt.df c)) ((fs.drop o).take (S.kt.sz c)) with
    | some (l,H1) =>match S.kt.bk c l with
     | some x =>some (x,H1,.cells id (fs.take o) (fs.drop (o + S.kt.sz c)))
     | none =>none
    | none =>none
   | false =>none
  | some (.elt j i sz) =>match Nat.beq o 0 && Nat.beq sz (S.kt.sz c) with
   | true =>match get H j with
    | some (.row c' xs) =>match ahE c' c xs with
     | some ys =>some (atL (S.df c) ys i,del H j,.elt j i ys)
     | none =>none
    | _ =>none
   | false =>none
  | _ =>none
 | _ =>none
def aqJ (c : Nat) (x : S.T c) (H : S.kt.H) : RemC S.T S.M c → S.kt.H
 | .cells id pre post =>(id,.cells (pre ++ ((S.kt.vw c x).map .f ++ post))) :: H
 | .elt j i xs =>(j,.row c (xs.set i.toNat x)) :: H
def aqa (ρ : Env) (c : Nat) : RemC S.T S.M c → aag
 | .cells id pre post =>fun h =>∃ us ws : List Value,us.length = pre.length ∧ abk (pts (ρ.p id).1 (ρ.p id).2 us :: pts (ρ.p id).1 ((ρ.p id).2 + pre.length + S.kt.sz c) ws :: (fsS (fS S.kt ρ) pre us ++ fsS (fS S.kt ρ) post ws)) h
 | .elt j i xs =>fun h =>∃ (b o : Nat) (vss : List (List Value)) (spare : List Value) (N : List aag),(0 ≤ i ∧ i < (xs.length : Int)) ∧ ((ρ.s j).a = some ⟨b,o,none⟩ ∧ (ρ.s j).n = xs.length) ∧ (vss.length = xs.length ∧ ∀ v ∈ vss,v.length = S.kt.sz c) ∧
   (xs.length ≤ (ρ.s j).c ∧ (ρ.s j).c ≤ maxLen ∧ spare.length = ((ρ.s j).c - xs.length) * S.kt.sz c) ∧ (∀ x' vs',(abx S.kt (pcS S.kt) c (xs.set i.toNat x') (vss.set i.toNat vs')).Perm (fsS (pcS S.kt) (S.kt.vw c x') vs' ++ N)) ∧
   abk (pts b o (vss.flatten.take (i.toNat * S.kt.sz c)) :: pts b (o + i.toNat * S.kt.sz c + S.kt.sz c) (vss.flatten.drop (i.toNat * S.kt.sz c + S.kt.sz c) ++ spare) :: N) h
def ab7 (ρ : Env) (c : Nat) : RemC S.T S.M c → Nat × Nat
 | .cells id pre _ =>((ρ.p id).1,(ρ.p id).2 + pre.length)
 | .elt j i _ =>match (ρ.s j).a with
  | some a =>(a.block,a.off + i.toNat * S.kt.sz c)
  | none =>(0,0)
end
section
variable {S : Shp} {B : Nat} {w : World} {ρ : Env}
theorem aju {α : Type} {A : α → aag} {L : List aag} (s : Sat B w ((fun h =>∃ x,A x h) :: L)) : ∃ x,Sat B w (A x :: L) := by
 obtain ⟨h,Hh,k1,k2,a,e,⟨x,hx⟩,hL⟩ := s
 exact ⟨x,h,Hh,k1,k2,a,e,hx,hL⟩
theorem atl {N L : List aag} (s : Sat B w (abk N :: L)) : Sat B w (N ++ L) := by
 obtain ⟨h,Hh,k1,k2,a,e,hx,hL⟩ := s
 exact ⟨h,Hh,aao.2 ⟨k1,k2,a,e,hx,hL⟩⟩
theorem afp {N L : List aag} {A : aag} (f : ∀ h,abk N h → A h) (s : Sat B w (N ++ L)) : Sat B w (A :: L) := by
 obtain ⟨h,Hh,hs⟩ := s
 obtain ⟨k1,k2,a,e,g1,g2⟩ := aao.1 hs
 exact ⟨h,Hh,k1,k2,a,e,f _ g1,g2⟩
theorem asV {H H1 : S.kt.H} {c : Nat} {v : V} {x : S.T c} {r : RemC S.T S.M c} (h : asW S H c v = some (x,H1,r)) {X : List aag} (s : Sat B w (dH S.kt ρ H ++ X)) :
  aar ρ v = .pointer (some ⟨(ab7 S ρ c r).1,(ab7 S ρ c r).2,none⟩) ∧ Sat B w (obS S.kt c x (ab7 S ρ c r) :: aqa S ρ c r :: (dH S.kt ρ H1 ++ X)) := by
 unfold asW at h
 split at h
 ·rename_i id o
  split at h
  ·rename_i fs hg
   split at h
   ·rename_i hB
    split at h
    ·rename_i l H2 hl
     split at h
     ·rename_i y hy
      cases h
      have hle := Nat.le_of_ble_eq_true hB
      obtain ⟨vs,s1⟩ := adN (s.imp (aaI (ρ := ρ) hg))
      have hlen := ae1 s1
      have hol : (fs.take o).length = o := by simp; omega
      refine ⟨by simp [aar,ab7,hol],?_⟩
      -- three parts
      have e1 : fsS (fS S.kt ρ) fs vs = fsS (fS S.kt ρ) (fs.take o) (vs.take o) ++ (fsS (fS S.kt ρ) ((fs.drop o).take (S.kt.sz c)) ((vs.drop o).take (S.kt.sz c)) ++ fsS (fS S.kt ρ) (fs.drop (o + S.kt.sz c)) (vs.drop (o + S.kt.sz c))) := by
       conv =>lhs; rw [← List.take_append_drop o fs,← List.take_append_drop o vs,aeA (by simp [hlen])]
       conv =>lhs; arg 2; rw [← List.take_append_drop (S.kt.sz c) (fs.drop o),← List.take_append_drop (S.kt.sz c) (vs.drop o),aeA (by simp [hlen]),List.drop_drop,List.drop_drop]
      have e2 : vs = vs.take o ++ ((vs.drop o).take (S.kt.sz c) ++ vs.drop (o + S.kt.sz c)) := by
       rw [← List.drop_drop,List.take_append_drop,List.take_append_drop]
      have s2 : Sat B w (pts (ρ.p id).1 (ρ.p id).2 (vs.take o ++ ((vs.drop o).take (S.kt.sz c) ++ vs.drop (o + S.kt.sz c))) :: (fsS (fS S.kt ρ) fs vs ++ (dH S.kt ρ (del H id) ++ X))) := by rw [← e2]; exact s1
      have s3 := s2.imp ahl
      have hvo : (vs.take o).length = o := by simp; omega
      rw [hvo] at s3
      have s4 : Sat B w (pts (ρ.p id).1 ((ρ.p id).2 + o) ((vs.drop o).take (S.kt.sz c) ++ vs.drop (o + S.kt.sz c)) :: pts (ρ.p id).1 (ρ.p id).2 (vs.take o) :: (fsS (fS S.kt ρ) fs vs ++ (dH S.kt ρ (del H id) ++ X))) := s3.perm (List.Perm.swap ..)
      have s5 := s4.imp ahl
      have hvm : ((vs.drop o).take (S.kt.sz c)).length = S.kt.sz c := by rw [List.length_take,List.length_drop]; omega
      rw [hvm,e1] at s5
      -- the middle is put together
      have s6 : Sat B w (fsS (fS S.kt ρ) ((fs.drop o).take (S.kt.sz c)) ((vs.drop o).take (S.kt.sz c)) ++ (dH S.kt ρ (del H id) ++ (pts (ρ.p id).1 ((ρ.p id).2 + o) ((vs.drop o).take (S.kt.sz c)) :: ((pts (ρ.p id).1 (ρ.p id).2 (vs.take o) :: pts (ρ.p id).1 ((ρ.p id).2 + o + S.kt.sz c) (vs.drop (o + S.kt.sz c)) :: (fsS (fS S.kt ρ) (fs.take o) (vs.take o) ++ fsS (fS S.kt ρ) (fs.drop (o + S.kt.sz c)) (vs.drop (o + S.kt.sz c)))) ++ X)))) := by
       refine s5.perm ?_
       refine List.Perm.symm ?_
       refine (afM _ _ _ _).trans (List.Perm.cons _ ?_)
       simp only [List.cons_append]
       refine (afM _ _ _ _).trans ?_
       refine List.Perm.trans (List.Perm.cons _ (afM _ _ _ _)) ?_
       refine (List.Perm.swap ..).trans (List.Perm.cons _ (List.Perm.cons _ ?_))
       simp only [List.append_assoc]
       -- mid ++ (H ++ (pre ++ (post ++ X)))  ~  pre ++ (mid ++ (post ++ (H ++ X)))
       refine (List.Perm.append_left _ (ace _ _ _)).trans ?_
       refine (ace _ _ _).trans (List.Perm.append_left _ (List.Perm.append_left _ (ace _ _ _)))
      have s7 := aeI ajb hl s6
      have s8 : Sat B w ((pts (ρ.p id).1 ((ρ.p id).2 + o) ((vs.drop o).take (S.kt.sz c)) :: fsS (pcS S.kt) l ((vs.drop o).take (S.kt.sz c))) ++ ((pts (ρ.p id).1 (ρ.p id).2 (vs.take o) :: pts (ρ.p id).1 ((ρ.p id).2 + o + S.kt.sz c) (vs.drop (o + S.kt.sz c)) :: (fsS (fS S.kt ρ) (fs.take o) (vs.take o) ++ fsS (fS S.kt ρ) (fs.drop (o + S.kt.sz c)) (vs.drop (o + S.kt.sz c)))) ++ (dH S.kt ρ H1 ++ X))) := by
       refine s7.perm ?_
       refine (afM _ _ _ _).trans ?_
       simp only [List.cons_append]
       refine List.Perm.cons _ (List.Perm.append_left _ ?_)
       exact ace (dH S.kt ρ H1) (pts (ρ.p id).1 (ρ.p id).2 (vs.take o) :: pts (ρ.p id).1 ((ρ.p id).2 + o + S.kt.sz c) (vs.drop (o + S.kt.sz c)) :: (fsS (fS S.kt ρ) (fs.take o) (vs.take o) ++ fsS (fS S.kt ρ) (fs.drop (o + S.kt.sz c)) (vs.drop (o + S.kt.sz c)))) X
      refine afp (fun k hk =>?_) (?_ : Sat B w ((pts (ρ.p id).1 ((ρ.p id).2 + o) ((vs.drop o).take (S.kt.sz c)) :: fsS (pcS S.kt) l ((vs.drop o).take (S.kt.sz c))) ++ (aqa S ρ c (.cells id (fs.take o) (fs.drop (o + S.kt.sz c))) :: (dH S.kt ρ H1 ++ X))))
      ·refine ahr.2 ⟨(vs.drop o).take (S.kt.sz c),?_⟩
       rw [S.kt.bk_ok _ _ _ hy]
       simpa [ab7,hol] using hk
      ·have s9 := s8.perm List.perm_append_comm
       rw [List.append_assoc] at s9
       have s10 := afp (A := aqa S ρ c (.cells id (fs.take o) (fs.drop (o + S.kt.sz c)))) (fun k hk =>⟨vs.take o,vs.drop (o + S.kt.sz c),by rw [hvo,hol],by rw [hol]; exact hk⟩) s9
       refine s10.perm ?_
       refine List.Perm.symm ?_
       refine (List.perm_middle).trans (List.Perm.cons _ List.perm_append_comm)
     ·cases h
    ·cases h
   ·cases h
  ·rename_i j i sz hel
   split at h
   ·rename_i hB
    split at h
    ·rename_i c' xs hg
     split at h
     ·rename_i ys hy
      cases h
      obtain ⟨rfl,rfl⟩ := adr hy
      simp only [Bool.and_eq_true] at hB
      obtain rfl := Nat.eq_of_beq_eq_true hB.1
      obtain rfl := Nat.eq_of_beq_eq_true hB.2
      obtain ⟨hi,b,o2,hA,hp⟩ := amr s hel
      obtain ⟨hn,vss,h2,h3,s2⟩ := aeK s hg
      rw [hn] at hi
      have hxi := abZ (d := S.df c') hi
      have hlt : i.toNat < vss.length := by omega
      have hvs : vss[i.toNat]? = some vss[i.toNat] := List.getElem?_eq_getElem hlt
      have hvl := h3 _ (List.getElem_mem hlt)
      refine ⟨by simp [aar,ab7,hA,hp],?_⟩
      obtain ⟨hh,Hh,k1,k2,a,e,⟨r1,r2,r3,r4⟩,hL⟩ := s2
      rcases r4 with ⟨r4,_⟩ | ⟨b',o',spare,hA',hsp,hpts⟩
      ·rw [r4] at hA; cases hA
      ·rw [hA] at hA'
       cases hA'
       obtain ⟨N,p1,p2⟩ := ad8 (pc := pcS S.kt) hxi hvs
       have hfl := act h3
       have hlow : i.toNat * S.kt.sz c' + S.kt.sz c' ≤ vss.flatten.length := by
        rw [hfl]
        have : (i.toNat + 1) * S.kt.sz c' ≤ vss.length * S.kt.sz c' := Nat.mul_le_mul_right _ hlt
        rw [Nat.add_mul] at this; omega
       have hmid : (vss.flatten.drop (i.toNat * S.kt.sz c')).take (S.kt.sz c') = vss[i.toNat] := by
        apply List.ext_getElem?
        intro q
        by_cases hq : q < S.kt.sz c'
        ·rw [List.getElem?_take_of_lt hq,List.getElem?_drop]
         rw [afG h3 hvs (v := (vss[i.toNat])[q]'(by omega)) (List.getElem?_eq_getElem _),List.getElem?_eq_getElem]
        ·rw [List.getElem?_eq_none (by rw [List.length_take,List.length_drop]; omega),List.getElem?_eq_none (by omega)]
       have e2 : vss.flatten ++ spare = vss.flatten.take (i.toNat * S.kt.sz c') ++ (vss[i.toNat] ++ (vss.flatten.drop (i.toNat * S.kt.sz c' + S.kt.sz c') ++ spare)) := by
        rw [← hmid,← List.drop_drop,← List.append_assoc (List.take _ _),← List.append_assoc,List.append_assoc (List.take (i.toNat * S.kt.sz c') _),List.take_append_drop,List.take_append_drop]
       have t1 : Sat B w (pts b o2 (vss.flatten.take (i.toNat * S.kt.sz c') ++ (vss[i.toNat] ++ (vss.flatten.drop (i.toNat * S.kt.sz c' + S.kt.sz c') ++ spare))) :: (abx S.kt (pcS S.kt) c' ys vss ++ (dH S.kt ρ (del H j) ++ X))) := by
        rw [← e2]; exact ⟨hh,Hh,k1,k2,a,e,hpts,hL⟩
       have t2 := t1.imp ahl
       have htl : (vss.flatten.take (i.toNat * S.kt.sz c')).length = i.toNat * S.kt.sz c' := by rw [List.length_take]; omega
       rw [htl] at t2
       have t3 := (t2.perm (List.Perm.swap ..)).imp ahl
       rw [hvl] at t3
       have t4 : Sat B w ((pts b (o2 + i.toNat * S.kt.sz c') vss[i.toNat] :: fsS (pcS S.kt) (S.kt.vw c' (atL (S.df c') ys i)) vss[i.toNat]) ++ ((pts b o2 (vss.flatten.take (i.toNat * S.kt.sz c')) :: pts b (o2 + i.toNat * S.kt.sz c' + S.kt.sz c') (vss.flatten.drop (i.toNat * S.kt.sz c' + S.kt.sz c') ++ spare) :: N) ++ (dH S.kt ρ (del H j) ++ X))) := by
        refine t3.perm ?_
        simp only [List.cons_append]
        refine List.Perm.cons _ ?_
        refine (List.Perm.swap ..).trans ?_
        refine List.Perm.trans ?_ (List.perm_middle).symm
        refine List.Perm.cons _ ?_
        refine List.Perm.trans ?_ (List.perm_middle).symm
        refine List.Perm.cons _ ?_
        exact (p1.append_right _).trans (by rw [List.append_assoc])
       refine afp (fun k hk =>?_) (?_ : Sat B w ((pts b (o2 + i.toNat * S.kt.sz c') vss[i.toNat] :: fsS (pcS S.kt) (S.kt.vw c' (atL (S.df c') ys i)) vss[i.toNat]) ++ (aqa S ρ c' (.elt j i ys) :: (dH S.kt ρ (del H j) ++ X))))
       ·refine ahr.2 ⟨vss[i.toNat],?_⟩
        simpa [ab7,hA] using hk
       ·have s9 := t4.perm List.perm_append_comm
        rw [List.append_assoc] at s9
        have s10 := afp (A := aqa S ρ c' (.elt j i ys)) (fun k hk =>⟨b,o2,vss,spare,N,hi,⟨hA,hn⟩,⟨h2.symm,h3⟩,⟨r2,r3,hsp⟩,p2,hk⟩) s9
        refine s10.perm ?_
        refine List.Perm.symm ?_
        exact (List.perm_middle).trans (List.Perm.cons _ List.perm_append_comm)
     ·cases h
    ·cases h
   ·cases h
  ·cases h
 ·cases h
theorem apf {H : S.kt.H} {c : Nat} {x : S.T c} {r : RemC S.T S.M c} {X : List aag} (s : Sat B w (obS S.kt c x (ab7 S ρ c r) :: aqa S ρ c r :: (dH S.kt ρ H ++ X))) : Sat B w (dH S.kt ρ (aqJ S c x H r) ++ X) := by
 obtain ⟨h,Hh,k1,k2,a,e,hO,hL⟩ := s
 rw [ahr] at hO
 obtain ⟨vs,hO⟩ := hO
 have s1 : Sat B w ((pts (ab7 S ρ c r).1 (ab7 S ρ c r).2 vs :: fsS (pcS S.kt) (S.kt.vw c x) vs) ++ (aqa S ρ c r :: (dH S.kt ρ H ++ X))) := ⟨h,Hh,aao.2 ⟨k1,k2,a,e,hO,hL⟩⟩
 have hlen : (S.kt.vw c x).length = vs.length := ae1 s1
 rw [S.kt.sz_ok] at hlen
 have s2 : Sat B w (aqa S ρ c r :: ((pts (ab7 S ρ c r).1 (ab7 S ρ c r).2 vs :: fsS (pcS S.kt) (S.kt.vw c x) vs) ++ (dH S.kt ρ H ++ X))) := s1.perm (aas fun f g h1 h2 h3 =>by simp only [h1,h2,h3]; omega)
 cases r with
 | cells id pre post =>
  obtain ⟨us,s3⟩ := aju (show Sat B w ((fun h =>∃ us,(fun us h =>∃ ws : List Value,us.length = pre.length ∧ abk (pts (ρ.p id).1 (ρ.p id).2 us :: pts (ρ.p id).1 ((ρ.p id).2 + pre.length + S.kt.sz c) ws :: (fsS (fS S.kt ρ) pre us ++ fsS (fS S.kt ρ) post ws)) h) us h) :: ((pts ((ρ.p id).1) ((ρ.p id).2 + pre.length) vs :: fsS (pcS S.kt) (S.kt.vw c x) vs) ++ (dH S.kt ρ H ++ X))) from s2)
  obtain ⟨ws,s4⟩ := aju s3
  obtain ⟨hu,s5⟩ : us.length = pre.length ∧ Sat B w (abk (pts (ρ.p id).1 (ρ.p id).2 us :: pts (ρ.p id).1 ((ρ.p id).2 + pre.length + S.kt.sz c) ws :: (fsS (fS S.kt ρ) pre us ++ fsS (fS S.kt ρ) post ws)) :: ((pts ((ρ.p id).1) ((ρ.p id).2 + pre.length) vs :: fsS (pcS S.kt) (S.kt.vw c x) vs) ++ (dH S.kt ρ H ++ X))) := by
   obtain ⟨h',Hh',j1,j2,a',e',⟨g1,g2⟩,hL'⟩ := s4
   exact ⟨g1,h',Hh',j1,j2,a',e',g2,hL'⟩
  have s6 := atl s5
  have s7 : Sat B w (pts (ρ.p id).1 ((ρ.p id).2 + pre.length) vs :: pts (ρ.p id).1 ((ρ.p id).2 + pre.length + S.kt.sz c) ws :: (pts (ρ.p id).1 (ρ.p id).2 us :: (fsS (fS S.kt ρ) pre us ++ (fsS (pcS S.kt) (S.kt.vw c x) vs ++ fsS (fS S.kt ρ) post ws)) ++ (dH S.kt ρ H ++ X))) := s6.perm (aas fun f g h1 h2 h3 =>by simp only [h1,h2,h3]; omega)
  have s8 := s7.imp (ahm (by rw [← hlen]))
  have s9 := (s8.perm (List.Perm.swap ..)).imp (ahm (by rw [hu]))
  refine afp (N := pts (ρ.p id).1 (ρ.p id).2 (us ++ (vs ++ ws)) :: (fsS (fS S.kt ρ) pre us ++ (fsS (pcS S.kt) (S.kt.vw c x) vs ++ fsS (fS S.kt ρ) post ws))) (fun k hk =>⟨us ++ (vs ++ ws),?_⟩) s9
  show abk (pts (ρ.p id).1 (ρ.p id).2 (us ++ (vs ++ ws)) :: fsS (fS S.kt ρ) (pre ++ ((S.kt.vw c x).map .f ++ post)) (us ++ (vs ++ ws))) k
  rw [aeA hu.symm,aeA (by rw [List.length_map,S.kt.sz_ok,hlen]),aiW (pcS S.kt) _ (fun x v =>rfl)]
  exact hk
 | elt j i xs =>
  obtain ⟨h',Hh',j1,j2,a',e',⟨b,o,vss,spare,N,hi,⟨hA,hn⟩,⟨hvl,hvz⟩,⟨hc1,hc2,hc3⟩,hperm,hst⟩,hL'⟩ := s2
  have s3 : Sat B w ((pts b o (vss.flatten.take (i.toNat * S.kt.sz c)) :: pts b (o + i.toNat * S.kt.sz c + S.kt.sz c) (vss.flatten.drop (i.toNat * S.kt.sz c + S.kt.sz c) ++ spare) :: N) ++ ((pts (ab7 S ρ c (.elt j i xs)).1 (ab7 S ρ c (.elt j i xs)).2 vs :: fsS (pcS S.kt) (S.kt.vw c x) vs) ++ (dH S.kt ρ H ++ X))) := ⟨h',Hh',aao.2 ⟨j1,j2,a',e',hst,hL'⟩⟩
  have hra : ab7 S ρ c (.elt j i xs) = (b,o + i.toNat * S.kt.sz c) := by simp [ab7,hA]
  rw [hra] at s3
  have hlt : i.toNat < vss.length := by omega
  have hvs : vss[i.toNat]? = some vss[i.toNat] := List.getElem?_eq_getElem hlt
  have hfl := act hvz
  have hlow : i.toNat * S.kt.sz c + S.kt.sz c ≤ vss.flatten.length := by
   rw [hfl]
   have : (i.toNat + 1) * S.kt.sz c ≤ vss.length * S.kt.sz c := Nat.mul_le_mul_right _ hlt
   rw [Nat.add_mul] at this; omega
  have htl : (vss.flatten.take (i.toNat * S.kt.sz c)).length = i.toNat * S.kt.sz c := by rw [List.length_take]; omega
  have s4 : Sat B w (pts b (o + i.toNat * S.kt.sz c) vs :: pts b (o + i.toNat * S.kt.sz c + S.kt.sz c) (vss.flatten.drop (i.toNat * S.kt.sz c + S.kt.sz c) ++ spare) :: (pts b o (vss.flatten.take (i.toNat * S.kt.sz c)) :: (fsS (pcS S.kt) (S.kt.vw c x) vs ++ N) ++ (dH S.kt ρ H ++ X))) := s3.perm (aas fun f g h1 h2 h3 =>by simp only [h1,h2,h3]; omega)
  have s5 := s4.imp (ahm (by rw [← hlen]))
  have s6 := (s5.perm (List.Perm.swap ..)).imp (ahm (by rw [htl]))
  have e2 : vss.flatten.take (i.toNat * S.kt.sz c) ++ (vs ++ (vss.flatten.drop (i.toNat * S.kt.sz c + S.kt.sz c) ++ spare)) = (vss.set i.toNat vs).flatten ++ spare := by
   have := aeB (o := 0) (us := vs) hvz hvs (by omega)
   have e3 : (vss[i.toNat]).take 0 ++ vs ++ (vss[i.toNat]).drop (0 + vs.length) = vs := by
    have := hvz _ (List.getElem_mem hlt)
    rw [List.drop_eq_nil_of_le (by omega)]; simp
   rw [e3,Nat.add_zero,← hlen] at this
   rw [this]; simp only [List.append_assoc]
  rw [e2] at s6
  have s7 : Sat B w ((pts b o ((vss.set i.toNat vs).flatten ++ spare) :: abx S.kt (pcS S.kt) c (xs.set i.toNat x) (vss.set i.toNat vs)) ++ (dH S.kt ρ H ++ X)) := s6.perm (List.Perm.cons _ ((hperm x vs).symm.append_right _))
  refine afp (fun k hk =>?_) s7
  obtain ⟨q1,q2,qa,qe,g1,g2⟩ := hk
  refine ⟨by rw [List.length_set]; exact hn,abT.2 ⟨vss.set i.toNat vs,q1,q2,qa,qe,⟨?_,?_,hc2,.inr ⟨b,o,spare,hA,?_,g1⟩⟩,g2⟩⟩
  ·have hz2 : ∀ v ∈ vss.set i.toNat vs,v.length = S.kt.sz c := fun v hv =>by
    rcases List.mem_or_eq_of_mem_set hv with e | e
    ·exact hvz v e
    ·rw [e,← hlen]
   rw [act hz2,List.length_set,List.length_set,hvl]
  ·rw [List.length_set]; exact hc1
  ·rw [List.length_set]; exact hc3
end
section
variable (S : Shp)
def asX : List Pk → Type
 | [] =>Unit
 | .ref c :: l =>RemC S.T S.M c × asX l
 | .mch :: l =>Nat × asX l
 | .lent _ :: l =>Nat × asX l
 | .sh _ :: l =>asX l
 | .val _ :: l =>asX l
def aqc (Z : S.kt.H) : (ps : List Pk) → S.kt.H → List V → Option (ao4 S ps × S.kt.H × asX S ps)
 | [],H,[] =>some ((),H,())
 | .sh s :: ps,H,v :: vs =>match ay4 S Z H s v with
  | some (x,H1) =>match aqc Z ps H1 vs with
   | some (r,H2,m) =>some ((x,r),H2,m)
   | none =>none
  | none =>none
 | .val c :: ps,H,v :: vs =>match ay6 S H c v with
  | some (x,H1) =>match aqc Z ps H1 vs with
   | some (r,H2,m) =>some ((x,r),H2,m)
   | none =>none
  | none =>none
 | .ref c :: ps,H,v :: vs =>match asW S H c v with
  | some (x,H1,q) =>match aqc Z ps H1 vs with
   | some (r,H2,m) =>some ((x,r),H2,(q,m))
   | none =>none
  | none =>none
 | .mch :: ps,H,v :: vs =>match v with
  | .mc id =>match get H id with
   | some (.mach x) =>match aqc Z ps (del H id) vs with
    | some (r,H2,m) =>some ((x,r),H2,(id,m))
    | none =>none
   | _ =>none
  | _ =>none
 | .lent c :: ps,H,v :: vs =>match v with
  | .sl id =>match get H id with
   | some (.row c' xs) =>match ahE c' c xs with
    | some ys =>match aqc Z ps (del H id) vs with
     | some (r,H2,m) =>some ((ys,r),H2,(id,m))
     | none =>none
    | none =>none
   | _ =>none
  | _ =>none
 | _,_,_ =>none
def agu : (ps : List Pk) → asX S ps → alk S ps → S.kt.H → S.kt.H
 | [],_,_,H =>H
 | .sh _ :: ps,m,o,H =>agu ps m o H
 | .val _ :: ps,m,o,H =>agu ps m o H
 | .ref c :: ps,m,o,H =>aqJ S c o.1 (agu ps m.2 o.2 H) m.1
 | .mch :: ps,m,o,H =>(m.1,.mach o.1) :: agu ps m.2 o.2 H
 | .lent c :: ps,m,o,H =>(m.1,.row c o.1) :: agu ps m.2 o.2 H
def aje (ρ : Env) : (ps : List Pk) → asX S ps → List aag
 | [],_ =>[]
 | .sh _ :: ps,m =>aje ρ ps m
 | .val _ :: ps,m =>aje ρ ps m
 | .ref c :: ps,m =>aqa S ρ c m.1 :: aje ρ ps m.2
 | .mch :: ps,m =>aje ρ ps m.2
 | .lent _ :: ps,m =>aje ρ ps m.2
def aiN (ρ : Env) : (ps : List Pk) → asX S ps → List Value → Prop
 | [],_,_ =>True
 | .sh _ :: ps,m,_ :: vs =>aiN ρ ps m vs
 | .val _ :: ps,m,_ :: vs =>aiN ρ ps m vs
 | .ref c :: ps,m,v :: vs =>v = .pointer (some ⟨(ab7 S ρ c m.1).1,(ab7 S ρ c m.1).2,none⟩) ∧ aiN ρ ps m.2 vs
 | .mch :: ps,m,v :: vs =>v = ρ.v m.1 ∧ aiN ρ ps m.2 vs
 | .lent _ :: ps,m,v :: vs =>v = aar ρ (.sl m.1) ∧ aiN ρ ps m.2 vs
 | _ :: _,_,[] =>False
end
section
variable {S : Shp} {B : Nat} {w : World} {ρ : Env}
theorem avU {id c' c : Nat} {zs : List (S.T c')} {ys : List (S.T c)} {L : List aag} (s : Sat B w (abM S.kt ρ id (.row c' zs) :: L)) (hq : ahE c' c zs = some ys) : Sat B w (pcS S.kt (.row c ys) (aar ρ (.sl id)) :: L) := by
 obtain ⟨e,he⟩ := adr hq
 subst e
 subst he
 refine abg (fun k hk =>?_) s
 rw [aaF]
 exact ⟨(ρ.s id).a,(ρ.s id).c,by rw [← hk.1]; rfl,hk.2⟩
theorem axD {id c : Nat} {xs : List (S.T c)} {L : List aag} (s : Sat B w (pcS S.kt (.row c xs) (aar ρ (.sl id)) :: L)) : Sat B w (abM S.kt ρ id (.row c xs) :: L) := abg (fun k hk =>by
 rw [aaF] at hk
 obtain ⟨A,cap,e,h⟩ := hk
 injection e with e1 e2 e3
 subst e1 e3
 exact ⟨e2,h⟩) s
theorem ahK {Z : S.kt.H} : ∀ {ps : List Pk} {H H' : S.kt.H} {vs : List V} {x : ao4 S ps} {m : asX S ps},aqc S Z ps H vs = some (x,H',m) → ∀ {X : List aag},Sat B w (dH S.kt ρ H ++ (dH S.kt ρ Z ++ X)) →
  aiN S ρ ps m (aam ρ vs) ∧ Sat B w (aj9 S ps x (aam ρ vs) ++ (aje S ρ ps m ++ (dH S.kt ρ H' ++ (dH S.kt ρ Z ++ X))))
 | [],H,H',[],x,m,h,X,s =>by cases h; exact ⟨trivial,s⟩
 | [],_,_,_ :: _,_,_,h,_,_ =>by cases h
 | .sh _ :: _,_,_,[],_,_,h,_,_ =>by cases h
 | .val _ :: _,_,_,[],_,_,h,_,_ =>by cases h
 | .ref _ :: _,_,_,[],_,_,h,_,_ =>by cases h
 | .mch :: _,_,_,[],_,_,h,_,_ =>by cases h
 | .lent _ :: _,_,_,[],_,_,h,_,_ =>by cases h
 | .sh s0 :: ps,H,H',v :: vs,x,m,h,X,s =>by
  unfold aqc at h
  split at h
  ·rename_i y H1 h1
   split at h
   ·rename_i r H2 m' h2
    cases h
    have s1 := asN h1 s
    obtain ⟨l,s2⟩ := ahK h2 (X := pcS S.kt (vw1 S.T S.M s0 y) (aar ρ v) :: X) (s1.perm (aas fun f g h1 h2 h3 =>by simp only [h1,h2,h3]; omega))
    exact ⟨l,s2.perm (aas fun f g h1 h2 h3 =>by simp only [h1,h2,h3,aj9,aam,List.cons_append,aje]; omega)⟩
   ·cases h
  ·cases h
 | .val c :: ps,H,H',v :: vs,x,m,h,X,s =>by
  unfold aqc at h
  split at h
  ·rename_i y H1 h1
   split at h
   ·rename_i r H2 m' h2
    cases h
    have s1 := asP h1 s
    obtain ⟨l,s2⟩ := ahK h2 (X := as8 S c y (aar ρ v) :: X) (s1.perm (aas fun f g h1 h2 h3 =>by simp only [h1,h2,h3]; omega))
    exact ⟨l,s2.perm (aas fun f g h1 h2 h3 =>by simp only [h1,h2,h3,aj9,aam,List.cons_append,aje]; omega)⟩
   ·cases h
  ·cases h
 | .ref c :: ps,H,H',v :: vs,x,m,h,X,s =>by
  unfold aqc at h
  split at h
  ·rename_i y H1 q h1
   split at h
   ·rename_i r H2 m' h2
    cases h
    obtain ⟨hv,s1⟩ := asV h1 s
    have s1' : Sat B w (pcS S.kt (.own c y) (aar ρ v) :: aqa S ρ c q :: (dH S.kt ρ H1 ++ (dH S.kt ρ Z ++ X))) := abg (fun k hk =>aaF.2 (show pcW S.kt (obS S.kt) (rwS S.kt) (.own c y) (aar ρ v) k from ⟨_,hv,hk⟩)) s1
    obtain ⟨l,s2⟩ := ahK h2 (X := pcS S.kt (.own c y) (aar ρ v) :: aqa S ρ c q :: X) (s1'.perm (aas fun f g h1 h2 h3 =>by simp only [h1,h2,h3]; omega))
    exact ⟨⟨hv,l⟩,s2.perm (aas fun f g h1 h2 h3 =>by simp only [h1,h2,h3,aj9,aam,List.cons_append,aje]; omega)⟩
   ·cases h
  ·cases h
 | .mch :: ps,H,H',v :: vs,x,m,h,X,s =>by
  unfold aqc at h
  split at h
  ·rename_i id
   split at h
   ·rename_i y hg
    split at h
    ·rename_i r H2 m' h2
     cases h
     have s1 := s.imp (aaI (ρ := ρ) hg)
     obtain ⟨l,s2⟩ := ahK h2 (X := pcS S.kt (.mach y) (ρ.v id) :: X) (s1.perm (aas fun f g h1 h2 h3 =>by simp only [h1,h2,h3,abM]; omega))
     exact ⟨⟨rfl,l⟩,s2.perm (aas fun f g h1 h2 h3 =>by simp only [h1,h2,h3,aj9,aam,aar,List.cons_append,aje]; omega)⟩
    ·cases h
   ·cases h
  ·cases h
 | .lent c :: ps,H,H',v :: vs,x,m,h,X,s =>by
  unfold aqc at h
  split at h
  ·rename_i id
   split at h
   ·rename_i c' zs hg
    split at h
    ·rename_i ys hq
     split at h
     ·rename_i r H2 m' h2
      cases h
      have s1 := avU (s.imp (aaI (ρ := ρ) hg)) hq
      obtain ⟨l,s2⟩ := ahK h2 (X := pcS S.kt (.row c ys) (aar ρ (.sl id)) :: X) (s1.perm (aas fun f g h1 h2 h3 =>by simp only [h1,h2,h3]; omega))
      exact ⟨⟨rfl,l⟩,s2.perm (aas fun f g h1 h2 h3 =>by simp only [h1,h2,h3,aj9,aam,List.cons_append,aje]; omega)⟩
     ·cases h
    ·cases h
   ·cases h
  ·cases h
theorem axL {c : Nat} {x : S.T c} {q : Nat × Nat} {L : List aag} (s : Sat B w (pcS S.kt (.own c x) (.pointer (some ⟨q.1,q.2,none⟩)) :: L)) : Sat B w (obS S.kt c x q :: L) := abg (fun k hk =>by
 rw [aaF] at hk
 obtain ⟨⟨a',b'⟩,e,h⟩ := hk
 obtain ⟨a,b⟩ := q
 cases e
 exact h) s
theorem afq : ∀ {ps : List Pk} {H : S.kt.H} {m : asX S ps} {o : alk S ps} {vs : List Value} {X : List aag},aiN S ρ ps m vs → Sat B w (aeV S ps o vs ++ (aje S ρ ps m ++ (dH S.kt ρ H ++ X))) → Sat B w (dH S.kt ρ (agu S ps m o H) ++ X)
 | [],H,m,o,vs,X,_,s =>by cases vs <;> exact s
 | p :: _,_,_,_,[],_,l,_ =>by cases p <;> exact l.elim
 | .sh _ :: ps,H,m,o,v :: vs,X,l,s =>afq (ps := ps) l s
 | .val _ :: ps,H,m,o,v :: vs,X,l,s =>afq (ps := ps) l s
 | .ref c :: ps,H,m,o,v :: vs,X,l,s =>by
  obtain ⟨hv,l'⟩ := l
  have s1 : Sat B w (aeV S ps o.2 vs ++ (aje S ρ ps m.2 ++ (dH S.kt ρ H ++ (pcS S.kt (.own c o.1) v :: aqa S ρ c m.1 :: X)))) := s.perm (aas fun f g h1 h2 h3 =>by simp only [aeV,aje,List.cons_append,h1,h2,h3]; omega)
  have s2 := afq l' s1
  rw [hv] at s2
  have s3 := axL (q := ab7 S ρ c m.1) (s2.perm (afM (dH S.kt ρ (agu S ps m.2 o.2 H)) [] _ _))
  exact apf (s3.perm (aas fun f g h1 h2 h3 =>by simp only [h1,h2,h3]; omega))
 | .mch :: ps,H,m,o,v :: vs,X,l,s =>by
  obtain ⟨hv,l'⟩ := l
  have s1 : Sat B w (aeV S ps o.2 vs ++ (aje S ρ ps m.2 ++ (dH S.kt ρ H ++ (pcS S.kt (.mach o.1) v :: X)))) := s.perm (aas fun f g h1 h2 h3 =>by simp only [aeV,aje,List.cons_append,h1,h2,h3]; omega)
  have s2 := afq l' s1
  rw [hv] at s2
  exact s2.perm (aas fun f g h1 h2 h3 =>by simp only [agu,dH,List.map_cons,abM,List.cons_append,h1,h2,h3]; omega)
 | .lent c :: ps,H,m,o,v :: vs,X,l,s =>by
  obtain ⟨hv,l'⟩ := l
  have s1 : Sat B w (aeV S ps o.2 vs ++ (aje S ρ ps m.2 ++ (dH S.kt ρ H ++ (pcS S.kt (.row c o.1) v :: X)))) := s.perm (aas fun f g h1 h2 h3 =>by simp only [aeV,aje,List.cons_append,h1,h2,h3]; omega)
  have s2 := afq l' s1
  rw [hv] at s2
  have s3 := axD (s2.perm (afM (dH S.kt ρ (agu S ps m.2 o.2 H)) [] _ _))
  exact s3.perm (aas fun f g h1 h2 h3 =>by simp only [agu,dH,List.map_cons,List.cons_append,List.nil_append,h1,h2,h3]; try omega)
structure Con (S : Shp) where
 f : FuncId
 ps : List Pk
 rs : List Rk
 spec : ao4 S ps → Option (ao3 S rs × alk S ps)
def asq (S : Shp) (c : Con S) {α : Type} (vs : List V) (n : Nat) (Z H : S.kt.H) (k : Nat → S.kt.H → V → Option α) : Option α :=
 match aqc S Z c.ps (aAa S.kt H) vs with
 | some (x,H1,m) =>(c.spec x).bind fun out =>match Nat.ble (ac8 (agu S c.ps m out.2 H1)) n with
  | true =>k (amJ S c.rs out.1 n).2.2 ((amJ S c.rs out.1 n).2.1 ++ agu S c.ps m out.2 H1) (avn (amJ S c.rs out.1 n).1)
  | false =>none
 | none =>none
def auo (S : Shp) : List (Con S) → FuncId → Option (Con S)
 | [],_ =>none
 | c :: l,f =>match Nat.beq c.f f with
  | true =>some c
  | false =>auo S l f
def asI (S : Shp) (cs : List (Con S)) : aha S.kt := fun _ f vs n Z H k =>match auo S cs f with
 | some c =>asq S c vs n Z H k
 | none =>none
theorem aun {cs : List (Con S)} {f : FuncId} {c : Con S} (h : auo S cs f = some c) : c ∈ cs ∧ c.f = f := by
 induction cs with
 | nil =>cases h
 | cons d cs ih =>
  unfold auo at h
  split at h
  ·rename_i e; cases h; exact ⟨List.mem_cons_self ..,Nat.eq_of_beq_eq_true e⟩
  ·obtain ⟨h1,h2⟩ := ih h; exact ⟨List.mem_cons_of_mem _ h1,h2⟩
theorem anD : ∀ {rs : List Rk} {x : ao3 S rs} {n : Nat},n ≤ (amJ S rs x n).2.2
 | [],_,_ =>Nat.le_refl _
 | .sh _ :: rs,x,n =>Nat.le_trans (Nat.le_succ n) (anD (rs := rs) (x := x.2))
 | .val c :: rs,x,n =>Nat.le_trans (Nat.le_add_right ..) (anD (rs := rs) (x := x.2))
theorem asH [Tb] {P : Program} {W : World} (hg : ay9 B W) {cs : List (Con S)} (h : ∀ c ∈ cs,auR S P c.f c.ps c.rs c.spec) : ag9 S.kt P B W (asI S cs) := by
 intro α fid vs n Z H k out hk h1 h2 h3 F ρ w hw
 unfold asI at hk
 split at hk
 ·rename_i c hc
  obtain ⟨hm,rfl⟩ := aun hc
  unfold asq at hk
  split at hk
  ·rename_i x H1 m hx
   cases hsp : c.spec x with
   | none =>rw [hsp] at hk; cases hk
   | some o =>
    rw [hsp] at hk
    simp only [Option.bind_some] at hk
    split at hk
    ·rename_i hB
     have hB' := Nat.le_of_ble_eq_true hB
     obtain ⟨l,s1⟩ := ahK hx (X := [F]) (aw2 hw.2.2)
     have hcl : Cls B W (aj9 S c.ps x (aam ρ vs) ++ [avA (aje S ρ c.ps m ++ (dH S.kt ρ H1 ++ (dH S.kt ρ Z ++ [F])))]) w := ⟨hw.1,hw.2.1,s1.fold⟩
     refine aek.mono (h c hm x o hsp B W hg (aam ρ vs) _ w hcl) ?_
     rintro e w' ⟨us,he,hb1,hb2,hs⟩
     have s2 : Sat B w' (ap9 S c.rs o.1 us ++ (aeV S c.ps o.2 (aam ρ vs) ++ (aje S ρ c.ps m ++ (dH S.kt ρ H1 ++ (dH S.kt ρ Z ++ [F]))))) := by
      rw [← List.append_assoc] at hs
      have := hs.unfold
      rwa [List.append_assoc] at this
     have s3 : Sat B w' (aeV S c.ps o.2 (aam ρ vs) ++ (aje S ρ c.ps m ++ (dH S.kt ρ H1 ++ (ap9 S c.rs o.1 us ++ (dH S.kt ρ Z ++ [F]))))) := s2.perm (aas fun f g h1 h2 h3 =>by simp only [h1,h2,h3]; omega)
     have s4 := afq l s3
     have s5 : Sat B w' (ap9 S c.rs o.1 us ++ (fun ρ =>dH S.kt ρ (agu S c.ps m o.2 H1) ++ tl S.kt Z F ρ) ρ) := s4.perm (ace _ _ _)
     obtain ⟨ρ',a,e1,s6⟩ := anC (n := n) (X := fun ρ =>dH S.kt ρ (agu S c.ps m o.2 H1) ++ tl S.kt Z F ρ) (fun ρ ρ' ha =>by
      show _ ++ _ = _ ++ _
      rw [abv ha _ hB',abQ h2 ha]) s5
     refine ⟨⟨ρ',_,_,_⟩,⟨a,anD,hk⟩,?_,hb1,hb2,?_⟩
     ·rw [he,e1,an1]; rfl
     ·rw [dS,dHa,List.append_assoc]; exact s6
    ·cases hk
  ·cases hk
 ·cases hk
end
end
end Go.Proofs.YtkmkhldmflebkaaGreat
