/- Evaluation by itself,10: code; calls by their bodies. No program occurs here. Evaluation by itself: contracts of functions,from their bodies. No program occurs here. Evaluation by itself: calls by contracts. No program occurs here. Evaluation by itself: contracts in a row. No program occurs here. -/
import Derived.Test.YtidhehdanppcoaaGreatCnaf
import Derived.LoopNIn
import Derived.Test.YtidhehdanppcoaaGreatCnae
set_option linter.all false
namespace Go.Proofs.YtidhehdanppcoaaGreat
section
open Go Go.RowKit
abbrev Kt (K:KT) (α:Type):=aa6→Nat→KT.H K→Option α
section
variable (K:KT) (P:Program)
def aFx (R:aa6) (H:KT.H K):List ResultVar→Option (List V)
 | [] =>some []
 | .tmp t::l =>match get R t with
  | some v =>match aFx R H l with
   | some vs =>some (v::vs)
   | none =>none
  | none =>none
 | .cell t T::l =>match get R t with
  | some u =>match ldV K P H T u with
   | some v =>match aFx R H l with
    | some vs =>some (v::vs)
    | none =>none
   | none =>none
  | none =>none
def aGh:List V→V
 | [v] =>v
 | l =>.tup l
end
inductive Hint where
 | loop (items:List Itm) (fuel ex:Nat)
 | cut (items:List Itm) (fz:List Nat)
 | loopR (items:List Itm) (fuel ex:Nat)
 | cutR (items:List Itm) (fz:List Nat)
 | close
 | unroll (k:Nat)
 | spl (t:Nat) (vals:List Nat) (k:Nat)
def ajC:Code→Option Nat
 | .region id _ _ =>some id
 | .seq a b =>match ajC a with
  | some i =>some i
  | none =>ajC b
 | .block _ c =>ajC c
 | .loop c =>ajC c
 | .cond _ a b =>match ajC a with
  | some i =>some i
  | none =>ajC b
 | .scope c =>ajC c
 | _ =>none
def aMh:List Oper→List Nat
 | [] =>[]
 | o::l =>match o.dst with
  | some d =>d::aMh l
  | none =>aMh l
def aj7:Code→List Nat
 | .region _ ops _ =>aMh ops.toList
 | .seq a b =>aj7 a++aj7 b
 | .block _ c =>aj7 c
 | .loop c =>aj7 c
 | .cond _ a b =>aj7 a++aj7 b
 | .scope c =>aj7 c
 | _ =>[]
def afF (l:List Nat):aa6→aa6
 | [] =>[]
 | (t,v)::R =>match inN l t with
  | true =>afF l R
  | false =>(t,v)::afF l R
def aDD (l:List Nat):aa6→aa6
 | [] =>[]
 | (t,v)::R =>match inN l t with
  | true =>(t,v)::aDD l R
  | false =>aDD l R
def alF {α:Type} (l:List Nat):List (Nat×α)→List (Nat×α)×List (Nat×α)
 | [] =>([],[])
 | (t,v)::R =>match inN l t with
  | true =>((t,v)::(alF l R).1,(alF l R).2)
  | false =>((alF l R).1,(t,v)::(alF l R).2)
def lkH {T:Nat→Type} {M:Type}:List (Nat×Ch T M)→List (Nat×Ch T M)
 | [] =>[]
 | (t,v)::R =>match v with
  | .ro c xs =>(t,.ro c xs)::lkH R
  | .rr c xs =>(t,.rr c xs)::lkH R
  | _ =>lkH R
theorem aEU {K:KT} {ρ:Env} {t:Nat} {v:Ch K.T K.M} {L:List aad} (h:(∃ c xs,v=.ro c xs)∨∃ c xs,v=.rr c xs):Ent (ac6 K ρ t v::L) (ac6 K ρ t v::ac6 K ρ t v::L):=by
 rcases h with ⟨c,xs,rfl⟩ | ⟨c,xs,rfl⟩
 ·rintro k ⟨k1,k2,a,e,⟨h1,h2⟩,hL⟩
  exact aaJ (fun _ h =>⟨h1,h⟩) (abp (fun _ =>aaJ fun _ h =>⟨h1,h⟩) (ax3 k ⟨k1,k2,a,e,h2,hL⟩))
 ·rintro k ⟨k1,k2,a,e,⟨h1,ps,h2⟩,hL⟩
  exact aaJ (fun _ h =>⟨h1,ps,h⟩) (abp (fun _ =>aaJ fun _ h =>⟨h1,ps,h⟩) (am8 k ⟨k1,k2,a,e,h2,hL⟩))
theorem aF3 {K:KT} {ρ:Env} {X:List aad}:∀ {Z:KT.H K},Ent (dH K ρ Z++X) (dH K ρ (lkH Z)++(dH K ρ Z++X))
 | [] =>Ent.refl
 | (t,v)::Z =>by
  have ih:=aF3 (K:=K) (ρ:=ρ) (X:=X) (Z:=Z)
  have one:(∃ c xs,v=.ro c xs)∨(∃ c xs,v=.rr c xs)→Ent (dH K ρ ((t,v)::Z)++X) (dH K ρ ((t,v)::lkH Z)++(dH K ρ ((t,v)::Z)++X)):=fun h k hk =>by
   have h1:=aEU h k (show abW (ac6 K ρ t v::(dH K ρ Z++X)) k from hk)
   have h2:=abp (fun _ =>abp (fun q hq =>ih q hq)) h1
   refine abM ?_ h2
   show (ac6 K ρ t v::ac6 K ρ t v::(dH K ρ (lkH Z)++(dH K ρ Z++X))).Perm (ac6 K ρ t v::(dH K ρ (lkH Z)++(ac6 K ρ t v::(dH K ρ Z++X))))
   exact List.Perm.cons _ (List.perm_middle (l₁:=dH K ρ (lkH Z))).symm
  have none_:Ent (dH K ρ ((t,v)::Z)++X) (dH K ρ (lkH Z)++(dH K ρ ((t,v)::Z)++X)):=fun k hk =>by
   have h2:=abp (fun q hq =>ih q hq) (show abW (ac6 K ρ t v::(dH K ρ Z++X)) k from hk)
   exact abM (List.perm_middle (l₁:=dH K ρ (lkH Z))).symm h2
  unfold lkH
  split
  ·exact one (.inl ⟨_,_,rfl⟩)
  ·exact one (.inr ⟨_,_,rfl⟩)
  ·exact none_
theorem axU {K:KT} {nt B:Nat} {W:World} {ρ:Env} {L:adM} {Y Z H:KT.H K} {F:aad} {a:Act} {w:World} (s:Sta nt B W L (dS K ρ (Y++Z) H F) a w):Sta nt B W L (dS K ρ (Y++Z) (H++lkH Y) F) a w:=⟨s.regs,s.below,s.lo,by
 have s1:Sat B w (dH K ρ H++(dH K ρ (Y++Z)++[F])):=s.sat
 rw [arq,List.append_assoc] at s1
 have s2:Sat B w (dH K ρ Y++(dH K ρ H++(dH K ρ Z++[F]))):=s1.perm (adK _ _ _)
 have s3:=s2.imp (aF3 (K:=K) (ρ:=ρ))
 refine s3.perm ?_
 show (dH K ρ (lkH Y)++(dH K ρ Y++(dH K ρ H++(dH K ρ Z++[F])))).Perm (dH K ρ (H++lkH Y)++(dH K ρ (Y++Z)++[F]))
 rw [arq,arq]; exact aap fun f g h1 h2 h3 =>by simp only [h1,h2,h3]; omega⟩
def lpF {σ β:Type} (F:(σ→Option β)→σ→Option β):Nat→σ→Option β
 | 0,_ =>none
 | k+1,x =>F (lpF F k) x
def itF (S:Shp) (n:Nat) (Z:S.kt.H) (items:List Itm) {β:Type} (k:av9 S items→Option β):Kt S.kt β:=fun R _ H =>match itA S n Z items R H with
 | some (x,_) =>k x
 | none =>none
section
variable (S:Shp) (P:Program) (call:amj S.kt) (hs:List (Nat×Hint)) (nt:Nat)
def aGf {α:Type} (body:aa6→Nat→S.kt.H→Kt S.kt α→Option α):Nat→Kt S.kt α
 | 0 =>fun _ _ _ =>none
 | k+1 =>fun R n H =>body R n H (aGf body k)
def aEH {α:Type} (z:Int) (f:Nat→Option α):List Nat→Option α
 | [] =>none
 | m::l =>if z=((m:Nat):Int) then f m else aEH z f l
def aMD (R:aa6):Itm→Itm
 | .ob id c =>match Nat.ble 1000000 id with
  | true =>match get R (Nat.sub id 1000000) with
   | some (.ptr j _) =>.ob j c
   | some (.ifc _ (.ptr j _)) =>.ob j c
   | _ =>.ob id c
  | false =>.ob id c
 | it =>it
def aHU (R:aa6):List Itm→List Itm
 | [] =>[]
 | it::l =>aMD R it::aHU R l
def aLT (R:aa6):Hint→Hint
 | .loop items fuel ex =>.loop (aHU R items) fuel ex
 | .loopR items fuel ex =>.loopR (aHU R items) fuel ex
 | h =>h
def aG6 (R:aa6):List Itm→Bool
 | [] =>true
 | .cx id _::l =>match get R 0 with
  | some (.ptr j _) =>Nat.beq j id && aG6 R l
  | _ =>match get R 7 with
   | some (.ptr j _) =>Nat.beq j id && aG6 R l
   | _ =>false
 | _::l =>aG6 R l
def aMF (n:Nat) (Z:S.kt.H) (R:aa6) (H:S.kt.H):Hint→Bool
 | .loop items _ _ =>aG6 R items && (itA S n Z items R H).isSome
 | .loopR items _ _ =>aG6 R items && (itA S n Z items R H).isSome
 | .cut items fz =>aG6 R items && (match itA S n Z items R H with
  | some (_,Hr) =>Hr.all fun p =>match p.2 with
   | .cells .. =>fz.any (Nat.beq p.1)
   | .row .. =>fz.any (Nat.beq p.1)
   | _ =>true
  | none =>false)
 | .cutR items fz =>aG6 R items && (match itA S n Z items R H with
  | some (_,Hr) =>Hr.all fun p =>match p.2 with
   | .cells .. =>fz.any (Nat.beq p.1)
   | .row .. =>fz.any (Nat.beq p.1)
   | _ =>true
  | none =>false)
 | _ =>true
def aMp:List (Nat×Hint)→Nat→List Hint
 | [],_ =>[]
 | p::l,id =>match Nat.beq p.1 id with
  | true =>p.2::aMp l id
  | false =>aMp l id
def aMy (t:Hint→Bool):List Hint→Option Hint
 | [] =>none
 | h::l =>match t h with
  | true =>some h
  | false =>aMy t l
def aKl (hs:List (Nat×Hint)) (n:Nat) (Z:S.kt.H) (R:aa6) (H:S.kt.H) (id:Nat):Option Hint:=match aMp hs id with
 | [] =>none
 | [h] =>some h
 | l =>aMy (aMF S n Z R H) l
def aLS (hs:List (Nat×Hint)) (n:Nat) (Z:S.kt.H) (R:aa6) (H:S.kt.H) (id:Nat):Option Hint:=match aKl S hs n Z R H id with
 | some h =>some (aLT R h)
 | none =>none
def aIs (hs:List (Nat×Hint)) (id:Nat) (H:S.kt.H):S.kt.H:=match get hs id with
 | some .close =>aLn S.kt H
 | _ =>H
noncomputable def ev:Code→(α:Type)→(C:aa6)→(Z:S.kt.H)→aa6→Nat→S.kt.H→Kt S.kt α→(Nat→Kt S.kt α)→Kt S.kt α→Option α
 | .skip,_,_,_,R,n,H,kn,_,_ =>kn R n H
 | .region id ops d,_,C,Z,R,n,H,kn,_,_ =>match d with
  | false =>rtE S.kt P call ops nt C Z ops.toList R n (aIs S hs id H) kn
  | true =>aAZ ops.toList 0 fun L =>match okM ops L with
   | true =>atE S.kt P call ops nt C Z L ops.size 0 [] R n (aIs S hs id H) kn
   | false =>none
 | .seq x y,α,C,Z,R,n,H,kn,ke,kr =>match (ajC y).bind (aKl S hs n Z (R++C) H) with
  | some (.cut items fz) =>match Nat.ble (axO (afF (aj7 x) R++C)) n && Nat.ble (agm ((alF fz H).1++Z)) n with
   | true =>(ev x (av9 S items) (afF (aj7 x) R++C) ((alF fz H).1++Z) (aDD (aj7 x) R) n ((alF fz H).2++lkH (alF fz H).1) (itF S n ((alF fz H).1++Z) items some) (fun _ _ _ _ =>none) (fun _ _ _ =>none)).bind fun z =>
    ev y α C Z ((itB S items z n).1++afF (aj7 x) R) (itB S items z n).2.2 ((itB S items z n).2.1++(alF fz H).1) kn ke kr
   | false =>none
  | some (.cutR items fz) =>match Nat.ble (axO (afF (aj7 x) R++C)) n && Nat.ble (agm ((alF fz H).1++Z)) n with
   | true =>(ev x (av9 S items⊕α) (afF (aj7 x) R++C) ((alF fz H).1++Z) (aDD (aj7 x) R) n ((alF fz H).2++lkH (alF fz H).1) (itF S n ((alF fz H).1++Z) items (fun z =>some (.inl z))) (fun j R' n' H' =>(ke j (R'++afF (aj7 x) R) n' (H'++(alF fz H).1)).map .inr) (fun R' n' H' =>(kr (R'++afF (aj7 x) R) n' (H'++(alF fz H).1)).map .inr)).bind fun z =>match z with
    | .inl z =>ev y α C Z ((itB S items z n).1++afF (aj7 x) R) (itB S items z n).2.2 ((itB S items z n).2.1++(alF fz H).1) kn ke kr
    | .inr o =>some o
   | false =>none
  | _ =>ev x α C Z R n H (fun R n H =>ev y α C Z R n H kn ke kr) ke kr
 | .cond c x y,α,C,Z,R,n,H,kn,ke,kr =>match evO (R++C) c with
  | some (.t b) =>match b with
   | true =>ev x α C Z R n H kn ke kr
   | false =>ev y α C Z R n H kn ke kr
  | some (.p Q d) =>@ite _ Q d (ev x α C Z R n H kn ke kr) (ev y α C Z R n H kn ke kr)
  | some (.b b) =>if b=true then ev x α C Z R n H kn ke kr else ev y α C Z R n H kn ke kr
  | _ =>none
 | .block id c,α,C,Z,R,n,H,kn,ke,kr =>ev c α C Z R n H kn (fun j =>match Nat.beq j id with | true =>kn | false =>ke j) kr
 | .loop c,α,C,Z,R,n,H,_,ke,kr =>match (ajC c).bind (aLS S hs n Z (R++C) H) with
  | some (.loopR items fuel ex) =>match itA S n Z items R H with
   | some (x0,Hr) =>match Nat.ble (axO (afF (aj7 c) R++C)) n && Nat.ble (agm (Hr++Z)) n with
    | true =>(lpF (fun self x =>ev c (av9 S items⊕α) (afF (aj7 c) R++C) (Hr++Z) (itB S items x n).1 (itB S items x n).2.2 ((itB S items x n).2.1++lkH Hr) (itF S n (Hr++Z) items self)
      (fun j =>match Nat.beq j ex with | true =>itF S n (Hr++Z) items (fun z =>some (.inl z)) | false =>fun R' n' H' =>(ke j (R'++afF (aj7 c) R) n' (H'++Hr)).map .inr) (fun R' n' H' =>(kr (R'++afF (aj7 c) R) n' (H'++Hr)).map .inr)) fuel x0).bind fun z =>match z with
     | .inl z =>ke ex ((itB S items z n).1++afF (aj7 c) R) (itB S items z n).2.2 ((itB S items z n).2.1++Hr)
     | .inr o =>some o
    | false =>none
   | none =>none
  | some (.loop items fuel ex) =>match itA S n Z items R H with
   | some (x0,Hr) =>match Nat.ble (axO (afF (aj7 c) R++C)) n && Nat.ble (agm (Hr++Z)) n with
    | true =>(lpF (fun self x =>ev c (av9 S items) (afF (aj7 c) R++C) (Hr++Z) (itB S items x n).1 (itB S items x n).2.2 ((itB S items x n).2.1++lkH Hr) (itF S n (Hr++Z) items self)
      (fun j =>match Nat.beq j ex with | true =>itF S n (Hr++Z) items some | false =>fun _ _ _ =>none) (fun _ _ _ =>none)) fuel x0).bind fun z =>
     ke ex ((itB S items z n).1++afF (aj7 c) R) (itB S items z n).2.2 ((itB S items z n).2.1++Hr)
    | false =>none
   | none =>none
  | some (.unroll k) =>aGf S (fun R n H kn =>ev c α C Z R n H kn ke kr) k R n H
  | some (.spl t vals k) =>match get R t with
   | some (.i kk z) =>aEH z (fun m =>aGf S (fun R n H kn =>ev c α C Z R n H kn ke kr) k ((t,.l kk ((m:Nat):Int))::del R t) n H) vals
   | _ =>none
  | _ =>none
 | .exit id,_,_,_,R,n,H,_,ke,_ =>ke id R n H
 | .ret,_,_,_,R,n,H,_,_,kr =>kr R n H
 | _,_,_,_,_,_,_,_,_,_ =>none
end
theorem ayP {α:Type} {z:Int} {f:Nat→Option α} {out:α}:∀ {l:List Nat},aEH z f l=some out→∃ m:Nat,z=((m:Nat):Int)∧f m=some out
 | [],h =>by cases h
 | m::l,h =>by
  unfold aEH at h
  split at h
  ·rename_i e; exact ⟨m,e,h⟩
  ·exact ayP h
section
variable {S:Shp} {P:Program} {call:amj S.kt} {hs:List (Nat×Hint)} {nt B:Nat} {W:World} {F:aad}
theorem aDw {ρ:Env} {R C:aa6} {t:Nat} {kk:IntKind} {z:Int} {m:Nat} {a:Act} (hg:get R t=some (.i kk z)) (hz:z=((m:Nat):Int)) (r:Regs nt a (dR ρ (R++C))):Regs nt a (dR ρ (((t,.l kk ((m:Nat):Int))::del R t)++C)):=by
 refine ⟨r.size,r.defers,fun p hp =>?_⟩
 obtain ⟨q,hq,rfl⟩:=List.mem_map.1 hp
 rcases List.mem_append.1 hq with h1 | h1
 ·rcases List.mem_cons.1 h1 with e1 | e1
  ·subst e1
   have:=r.has _ (alO (ρ:=ρ) (atD hg))
   rw [hz] at this
   exact this
  ·exact r.has _ (List.mem_map.2 ⟨q,List.mem_append_left _ (ajE e1).1,rfl⟩)
 ·exact r.has _ (List.mem_map.2 ⟨q,List.mem_append_right _ h1,rfl⟩)
theorem as1 {ρ:Env} {R C:aa6} {a:Act} (h1:∀ p∈dR ρ R,a.tmps[p.1]?=some p.2) (h2:Regs nt a (dR ρ C)):Regs nt a (dR ρ (R++C)):=⟨h2.size,h2.defers,fun p hp =>by
 unfold dR at hp; rw [List.map_append] at hp
 exact (List.mem_append.1 hp).elim (h1 p) (h2.has p)⟩
theorem aFy {ρ:Env} {R C:aa6} {a:Act} (h:Regs nt a (dR ρ (R++C))):Regs nt a (dR ρ C):=h.sub fun p hp =>by unfold dR; rw [List.map_append]; exact List.mem_append_right _ hp
theorem auZ {ρ:Env} {R C:aa6} {a:Act} (h:Regs nt a (dR ρ (R++C))):Regs nt a (dR ρ R):=h.sub fun p hp =>by unfold dR; rw [List.map_append]; exact List.mem_append_left _ hp
theorem aq6 {l:List Nat} {p:Nat×V}:∀ {R:aa6},p∈afF l R→p∈R
 | [],h =>by cases h
 | (t,v)::R,h =>by
  unfold afF at h
  split at h
  ·exact List.mem_cons_of_mem _ (aq6 h)
  ·exact (List.mem_cons.1 h).elim (fun e =>by subst e; exact List.mem_cons_self ..) (fun h =>List.mem_cons_of_mem _ (aq6 h))
theorem asU {l:List Nat} {p:Nat×V}:∀ {R:aa6},p∈aDD l R→p∈R
 | [],h =>by cases h
 | (t,v)::R,h =>by
  unfold aDD at h
  split at h
  ·exact (List.mem_cons.1 h).elim (fun e =>by subst e; exact List.mem_cons_self ..) (fun h =>List.mem_cons_of_mem _ (asU h))
  ·exact List.mem_cons_of_mem _ (asU h)
theorem aqA {ρ:Env} {l:List Nat} {R C:aa6} {a:Act} (h:Regs nt a (dR ρ (R++C))):Regs nt a (dR ρ (afF l R++C)):=as1 (fun p hp =>by
 obtain ⟨q,hq,rfl⟩:=List.mem_map.1 hp
 exact (auZ h).has _ (List.mem_map.2 ⟨q,aq6 hq,rfl⟩)) (aFy h)
theorem ax7 {ρ:Env} {l:List Nat} {R C:aa6} {a:Act} (h:Regs nt a (dR ρ (R++C))):Regs nt a (dR ρ (aDD l R++(afF l R++C))):=as1 (fun p hp =>by
 obtain ⟨q,hq,rfl⟩:=List.mem_map.1 hp
 exact (auZ h).has _ (List.mem_map.2 ⟨q,asU hq,rfl⟩)) (aqA h)
theorem amy {ρ:Env} {l:List Nat}:∀ {H:S.kt.H},(dH S.kt ρ H).Perm (dH S.kt ρ (alF l H).2++dH S.kt ρ (alF l H).1)
 | [] =>.refl _
 | (t,v)::H =>by
  unfold alF
  split
  ·exact ((amy (H:=H)).cons _).trans (List.perm_middle).symm
  ·exact (amy (H:=H)).cons _
theorem atA {n:Nat} {ρ0 ρ1:Env} {items:List Itm} {x:av9 S items} {C:aa6} {Z:S.kt.H} {a:Act} {w:World} (h0:aaB n ρ0 ρ1) (ok:asj n items=true) (hC:axO C≤n) (hZ:agm Z≤n) (s:Sat B w (IS S ρ0 a items x++tl S.kt Z F ρ1)) (r:Regs nt a (dR ρ1 C)) (hb:Below B W w) (hl:B≤w.heap.size) :
  ∃ ρ',aaB n ρ0 ρ'∧n≤(itB S items x n).2.2∧Sta nt B W (dR ρ' ((itB S items x n).1++C)) (dS S.kt ρ' Z (itB S items x n).2.1 F) a w:=by
 obtain ⟨ρ2,a2,n2,r2,s2⟩:=aq8 (l:=items) (n:=n) (X:=tl S.kt Z F) ok (Nat.le_refl _) h0 (fun ρ ρ' ha =>adP hZ ha) s
 exact ⟨ρ2,h0.trans a2 (Nat.le_refl _),n2,⟨as1 r2 (by rw [← aco a2 C hC]; exact r),hb,hl,s2⟩⟩
theorem aoo {n:Nat} {ρ0 ρ1:Env} {items:List Itm} {x:av9 S items} {C R:aa6} {Z H H':S.kt.H} {a:Act} {w:World} (h:itA S n Z items R H=some (x,H')) (h0:aaB n ρ0 ρ1) (hC:axO C≤n) (hZ:agm Z≤n) (s:Sta nt B W (dR ρ1 (R++C)) (dS S.kt ρ1 Z H F) a w) :
  ∃ ρ',aaB n ρ0 ρ'∧n≤(itB S items x n).2.2∧Sta nt B W (dR ρ' ((itB S items x n).1++C)) (dS S.kt ρ' Z (itB S items x n).2.1 F) a w:=by
 obtain ⟨ok,s1⟩:=aBC (nt:=nt) (a:=a) h0 h (auZ s.regs) (X:=[F]) s.sat
 have s2:Sat B w (dH S.kt ρ1 H'++(IS S ρ0 a items x++(dH S.kt ρ1 Z++[F]))):=s1.perm (adK _ _ _)
 exact atA h0 ok hC hZ (s2.imp fun _ =>ahF) (aFy s.regs) s.below s.lo
theorem arW {ρ:Env} {R R' C:aa6} {Z H H':S.kt.H} {a:Act} {w:World} (s:Sta nt B W (dR ρ (R'++(R++C))) (dS S.kt ρ (H++Z) H' F) a w):Sta nt B W (dR ρ ((R'++R)++C)) (dS S.kt ρ Z (H'++H) F) a w:=⟨by rw [List.append_assoc]; exact s.regs,s.below,s.lo,s.sat.perm (by
 show (dH S.kt ρ H'++(dH S.kt ρ (H++Z)++[F])).Perm (dH S.kt ρ (H'++H)++(dH S.kt ρ Z++[F]))
 rw [dHa,dHa]; exact aap fun f g h1 h2 h3 =>by simp only [h1,h2,h3]; omega)⟩
theorem atv {α β:Type} {o:Option β} {z:α⊕β} (h:o.map Sum.inr=some z):∃ y,o=some y∧z=.inr y:=by
 cases o with
 | none =>cases h
 | some y =>exact ⟨y,rfl,(Option.some.inj h).symm⟩
theorem alf {n:Nat} {Z:S.kt.H} {items:List Itm} {β:Type} {k:av9 S items→Option β} {R:aa6} {m:Nat} {H:S.kt.H} {z:β} (h:itF S n Z items k R m H=some z):∃ x H',itA S n Z items R H=some (x,H')∧k x=some z:=by
 unfold itF at h
 split at h
 ·rename_i x H' hx; exact ⟨x,H',hx,h⟩
 ·cases h
theorem aae {α β:Type} {x:Option α} {f:α→Option β} {o:β} (h:x.bind f=some o):∃ z,x=some z∧f z=some o:=by
 cases x with
 | none =>cases h
 | some z =>exact ⟨z,rfl,h⟩
theorem aCh {ρ:Env} {w:World} {X:List aad} {id:Nat} {H:S.kt.H} (s:Sat B w (dH S.kt ρ H++X)):Sat B w (dH S.kt ρ (aIs S hs id H)++X):=by
 unfold aIs
 split
 ·exact at0 s
 ·exact s
theorem aj6 (hm:P.follows .mixedOrders=true) (hc:alR S.kt P B W call):∀ (c:Code) {α:Type} {out:α} {C:aa6} {Z:S.kt.H} {R:aa6} {n:Nat} {H:S.kt.H} {kn:Kt S.kt α} {ke:Nat→Kt S.kt α} {kr:Kt S.kt α} {Q:Exit→Act→World→Prop} {ρ:Env},
  ev S P call hs nt c α C Z R n H kn ke kr=some out→KOk S.kt Q nt B W C Z F out .normal ρ n kn→(∀ j,KOk S.kt Q nt B W C Z F out (.exit j) ρ n (ke j))→KOk S.kt Q nt B W C Z F out .ret ρ n kr →
  CT none P Q nt B W c (dR ρ (R++C)) (dS S.kt ρ Z H F)
 | .skip,α,out,C,Z,R,n,H,kn,ke,kr,Q,ρ,h,hn,_,_ =>aIo (hn _ _ _ _ (aaB.refl _ _) (Nat.le_refl _) h)
 | .region id ops d,α,out,C,Z,R,n,H,kn,ke,kr,Q,ρ,h,hn,_,_ =>by
  cases d with
  | false =>
   have:=aCc (id:=id) (axZ (r:=none) (ops:=ops) (Q:=Q) hc (show rtE S.kt P call ops nt C Z ops.toList R n (aIs S hs id H) kn=some out from h) hn)
   exact fun a w s =>this a w ⟨s.regs,s.below,s.lo,aCh s.sat⟩
  | true =>
   intro a w s
   have h1:(Code.region id ops true).wpIn (rf none) 0 P (NP Q) a w:=by
    refine wpIn_region_any hm ?_
    have s0:Sta nt B W (dR ρ (R++C)) (dS S.kt ρ Z (aIs S hs id H) F) a w:=⟨s.regs,s.below,s.lo,aCh s.sat⟩
    have s':=(aE3 s0.cls).st s0.regs
    have h0:(aAZ ops.toList 0 fun L =>match okM ops L with
     | true =>atE S.kt P call ops nt C Z L ops.size 0 [] R n (aIs S hs id H) kn
     | false =>none)=some out:=h
    rw [aye] at h0
    split at h0
    ·rename_i hok
     exact azh _ _ _ _ (anH rfl hok (Ob:=fun _ _ _ =>True) hc RelM.none axl (fun _ h =>by cases h) h0 hn (fun _ _ =>trivial) (fun _ h =>by cases h) (fun _ _ _ _ =>trivial) _ _ s')
    ·cases h0
   exact wpIn_mono h1 fun e a' w' hq =>by cases e<;>first | exact hq | exact hq.elim
 | .seq x y,α,out,C,Z,R,n,H,kn,ke,kr,Q,ρ,h,hn,he,hr =>by
  unfold ev at h
  split at h
  ·rename_i items fz _
   split at h
   ·rename_i hB
    simp only [Bool.and_eq_true] at hB
    have hC:=Nat.le_of_ble_eq_true hB.1
    have hZ:=Nat.le_of_ble_eq_true hB.2
    obtain ⟨z,hz,h2⟩:=aae h
    refine aCb fun a w s =>?_
    have s':Sta nt B W (dR ρ (aDD (aj7 x) R++(afF (aj7 x) R++C))) (dS S.kt ρ ((alF fz H).1++Z) (alF fz H).2 F) a w:=⟨ax7 s.regs,s.below,s.lo,s.sat.perm (by
     show (dH S.kt ρ H++(dH S.kt ρ Z++[F])).Perm (dH S.kt ρ (alF fz H).2++(dH S.kt ρ ((alF fz H).1++Z)++[F]))
     rw [dHa]
     exact ((amy (l:=fz)).append_right _).trans (aap fun f g h1 h2 h3 =>by simp only [h1,h2,h3]; omega))⟩
    refine aj6 hm hc x (out:=z) (Q:=Exit.then (y.wpIn (rf none) 0 P Q) Q) hz ?_ ?_ ?_ a w (axU s')
    ·intro ρ' R' n' H' ha hle hk a' w' s2
     obtain ⟨x',H'',hA,hx⟩:=alf hk
     obtain rfl:x'=z:=Option.some.inj hx
     obtain ⟨ρ2,a2,n2,s3⟩:=aoo hA ha hC hZ s2
     have s4:Sta nt B W (dR ρ2 (((itB S items x' n).1++afF (aj7 x) R)++C)) (dS S.kt ρ2 Z ((itB S items x' n).2.1++(alF fz H).1) F) a' w':=⟨by rw [List.append_assoc]; exact s3.regs,s3.below,s3.lo,s3.sat.perm (by
      show (dH S.kt ρ2 (itB S items x' n).2.1++(dH S.kt ρ2 ((alF fz H).1++Z)++[F])).Perm (dH S.kt ρ2 ((itB S items x' n).2.1++(alF fz H).1)++(dH S.kt ρ2 Z++[F]))
      rw [dHa,dHa]; exact aap fun f g h1 h2 h3 =>by simp only [h1,h2,h3]; omega)⟩
     exact aj6 hm hc y h2 (hn.from a2 n2) (fun j =>(he j).from a2 n2) (hr.from a2 n2) a' w' s4
    ·exact fun j ρ' R' n' H' ha hle hk =>by cases hk
    ·exact fun ρ' R' n' H' ha hle hk =>by cases hk
   ·cases h
  ·rename_i items fz _
   split at h
   ·rename_i hB
    simp only [Bool.and_eq_true] at hB
    have hC:=Nat.le_of_ble_eq_true hB.1
    have hZ:=Nat.le_of_ble_eq_true hB.2
    obtain ⟨z,hz,h2⟩:=aae h
    refine aCb fun a w s =>?_
    have s':Sta nt B W (dR ρ (aDD (aj7 x) R++(afF (aj7 x) R++C))) (dS S.kt ρ ((alF fz H).1++Z) (alF fz H).2 F) a w:=⟨ax7 s.regs,s.below,s.lo,s.sat.perm (by
     show (dH S.kt ρ H++(dH S.kt ρ Z++[F])).Perm (dH S.kt ρ (alF fz H).2++(dH S.kt ρ ((alF fz H).1++Z)++[F]))
     rw [dHa]
     exact ((amy (l:=fz)).append_right _).trans (aap fun f g h1 h2 h3 =>by simp only [h1,h2,h3]; omega))⟩
    refine aj6 hm hc x (out:=z) (Q:=Exit.then (y.wpIn (rf none) 0 P Q) Q) hz ?_ ?_ ?_ a w (axU s')
    ·intro ρ' R' n' H' ha hle hk a' w' s2
     obtain ⟨x',H'',hA,hx⟩:=alf hk
     obtain rfl:.inl x'=z:=Option.some.inj hx
     obtain ⟨ρ2,a2,n2,s3⟩:=aoo hA ha hC hZ s2
     exact aj6 hm hc y h2 (hn.from a2 n2) (fun j =>(he j).from a2 n2) (hr.from a2 n2) a' w' (arW s3)
    ·intro j ρ' R' n' H' ha hle hk a' w' s2
     obtain ⟨o,ho,rfl⟩:=atv hk
     obtain rfl:o=out:=Option.some.inj h2
     exact ao3 (he j ρ' _ n' _ ha hle ho) a' w' (arW s2)
    ·intro ρ' R' n' H' ha hle hk a' w' s2
     obtain ⟨o,ho,rfl⟩:=atv hk
     obtain rfl:o=out:=Option.some.inj h2
     exact ark (hr ρ' _ n' _ ha hle ho) a' w' (arW s2)
   ·cases h
  ·refine aCb (aj6 hm hc x (Q:=Exit.then (y.wpIn (rf none) 0 P Q) Q) h ?_ ?_ ?_)
   ·intro ρ' R' n' H' ha hle hk
    exact aIg (aj6 hm hc y hk (hn.from ha hle) (fun j =>(he j).from ha hle) (hr.from ha hle))
   ·exact fun j ρ' R' n' H' ha hle hk =>ao3 (he j ρ' R' n' H' ha hle hk)
   ·exact fun ρ' R' n' H' ha hle hk =>ark (hr ρ' R' n' H' ha hle hk)
 | .cond c x y,α,out,C,Z,R,n,H,kn,ke,kr,Q,ρ,h,hn,he,hr =>by
  unfold ev at h
  split at h
  ·rename_i b hb
   have hb':=aaO (ρ:=ρ) hb
   cases b with
   | true =>exact aIn hb' (aj6 hm hc x h hn he hr)
   | false =>exact aEW hb' (aj6 hm hc y h hn he hr)
  ·rename_i q d hb
   have hb':=aaO (ρ:=ρ) hb
   refine @aMi _ _ _ _ _ _ _ _ _ _ _ q d hb' (fun hp =>?_) (fun hp =>?_)
   ·rw [if_pos hp] at h; exact aj6 hm hc x h hn he hr
   ·rw [if_neg hp] at h; exact aj6 hm hc y h hn he hr
  ·rename_i b hb
   have hb':=aaO (ρ:=ρ) hb
   refine aKO hb' (fun hp =>?_) (fun hp =>?_)
   ·rw [if_pos hp] at h; exact aj6 hm hc x h hn he hr
   ·rw [if_neg (by rw [hp]; exact Bool.false_ne_true)] at h; exact aj6 hm hc y h hn he hr
  ·cases h
 | .block id c,α,out,C,Z,R,n,H,kn,ke,kr,Q,ρ,h,hn,he,hr =>by
  refine aEX (aj6 hm hc c (Q:=Exit.inBlock id Q) (show ev S P call hs nt c α C Z R n H kn (fun j =>match Nat.beq j id with | true =>kn | false =>ke j) kr=some out from h) ?_ ?_ ?_)
  ·exact fun ρ' R' n' H' ha hle hk =>aEN (hn ρ' R' n' H' ha hle hk)
  ·intro j ρ' R' n' H' ha hle hk
   have hk':(match Nat.beq j id with | true =>kn | false =>ke j) R' n' H'=some out:=hk
   cases e:Nat.beq j id with
   | true =>
    rw [e] at hk'
    obtain rfl:=Nat.eq_of_beq_eq_true e
    exact atS (hn ρ' R' n' H' ha hle hk')
   | false =>
    rw [e] at hk'
    exact atR (by rw [beq_eq_false_iff_ne]; intro hj; subst hj; have:=Nat.beq_refl j; rw [e] at this; cases this) (he j ρ' R' n' H' ha hle hk')
  ·exact fun ρ' R' n' H' ha hle hk =>avH (hr ρ' R' n' H' ha hle hk)
 | .exit id,α,out,C,Z,R,n,H,kn,ke,kr,Q,ρ,h,_,he,_ =>aIp (he id _ _ _ _ (aaB.refl _ _) (Nat.le_refl _) h)
 | .ret,α,out,C,Z,R,n,H,kn,ke,kr,Q,ρ,h,_,_,hr =>aKN (hr _ _ _ _ (aaB.refl _ _) (Nat.le_refl _) h)
 | .loop c,α,out,C,Z,R,n,H,kn,ke,kr,Q,ρ,h,hn,he,hr =>by
  unfold ev at h
  split at h
  ·rename_i items fuel ex _
   split at h
   ·rename_i x0 Hr hx0
    split at h
    ·rename_i hB
     simp only [Bool.and_eq_true] at hB
     have hC:=Nat.le_of_ble_eq_true hB.1
     have hZ:=Nat.le_of_ble_eq_true hB.2
     obtain ⟨z,hz,h2⟩:=aae h
     intro a w s
     obtain ⟨ok,s1⟩:=aBC (nt:=nt) (a:=a) (aaB.refl n ρ) hx0 (auZ s.regs) (X:=[F]) s.sat
     have s1':Sat B w (IS S ρ a items x0++tl S.kt (Hr++Z) F ρ):=by unfold tl; rw [dHa,List.append_assoc]; exact s1
     have J0:=atA (nt:=nt) (aaB.refl n ρ) ok hC hZ s1' (aqA (l:=aj7 c) s.regs) s.below s.lo
     refine akd (fun k a w =>∃ x,lpF _ k x=some z∧∃ ρ',aaB n ρ ρ'∧n≤(itB S items x n).2.2∧Sta nt B W (dR ρ' ((itB S items x n).1++(afF (aj7 c) R++C))) (dS S.kt ρ' (Hr++Z) (itB S items x n).2.1 F) a w) fuel ⟨x0,hz,J0⟩ ?_
     rintro m a' w' ⟨x,hx,ρ1,a1,n1,s2⟩
     cases m with
     | zero =>cases hx
     | succ k =>
      refine aj6 hm hc c (out:=z) (Q:=Exit.then (fun a' w' =>∃ m',m'<k+1∧∃ x,lpF _ m' x=some z∧∃ ρ',aaB n ρ ρ'∧n≤(itB S items x n).2.2∧Sta nt B W (dR ρ' ((itB S items x n).1++(afF (aj7 c) R++C))) (dS S.kt ρ' (Hr++Z) (itB S items x n).2.1 F) a' w') Q) hx ?_ ?_ ?_ a' w' (axU s2)
      ·intro ρ2 R' n' H' ha hle hk a2 w2 s3
       obtain ⟨x',H'',hA,hx'⟩:=alf hk
       exact ⟨k,Nat.lt_succ_self k,x',hx',aoo hA (a1.trans ha n1) hC hZ s3⟩
      ·intro j ρ2 R' n' H' ha hle hk a2 w2 s3
       have hk':(match Nat.beq j ex with | true =>itF S n (Hr++Z) items (fun z =>some (Sum.inl z)) | false =>fun R' n' H' =>(ke j (R'++afF (aj7 c) R) n' (H'++Hr)).map (Sum.inr:α→av9 S items⊕α)) R' n' H'=some z:=hk
       cases e:Nat.beq j ex with
       | true =>
        rw [e] at hk'
        obtain rfl:=Nat.eq_of_beq_eq_true e
        obtain ⟨x',H'',hA,hx'⟩:=alf hk'
        obtain rfl:.inl x'=z:=Option.some.inj hx'
        obtain ⟨ρ3,a3,n3,s4⟩:=aoo hA (a1.trans ha n1) hC hZ s3
        exact he j ρ3 _ _ _ a3 n3 h2 a2 w2 (arW s4)
       | false =>
        rw [e] at hk'
        obtain ⟨o,ho,rfl⟩:=atv hk'
        obtain rfl:o=out:=Option.some.inj h2
        exact he j ρ2 _ n' _ (a1.trans ha n1) (Nat.le_trans n1 hle) ho a2 w2 (arW s3)
      ·intro ρ2 R' n' H' ha hle hk a2 w2 s3
       obtain ⟨o,ho,rfl⟩:=atv hk
       obtain rfl:o=out:=Option.some.inj h2
       exact hr ρ2 _ n' _ (a1.trans ha n1) (Nat.le_trans n1 hle) ho a2 w2 (arW s3)
    ·cases h
   ·cases h
  ·rename_i items fuel ex _
   split at h
   ·rename_i x0 Hr hx0
    split at h
    ·rename_i hB
     simp only [Bool.and_eq_true] at hB
     have hC:=Nat.le_of_ble_eq_true hB.1
     have hZ:=Nat.le_of_ble_eq_true hB.2
     obtain ⟨z,hz,h2⟩:=aae h
     intro a w s
     obtain ⟨ok,s1⟩:=aBC (nt:=nt) (a:=a) (aaB.refl n ρ) hx0 (auZ s.regs) (X:=[F]) s.sat
     have s1':Sat B w (IS S ρ a items x0++tl S.kt (Hr++Z) F ρ):=by unfold tl; rw [dHa,List.append_assoc]; exact s1
     have J0:=atA (nt:=nt) (aaB.refl n ρ) ok hC hZ s1' (aqA (l:=aj7 c) s.regs) s.below s.lo
     refine akd (fun k a w =>∃ x,lpF _ k x=some z∧∃ ρ',aaB n ρ ρ'∧n≤(itB S items x n).2.2∧Sta nt B W (dR ρ' ((itB S items x n).1++(afF (aj7 c) R++C))) (dS S.kt ρ' (Hr++Z) (itB S items x n).2.1 F) a w) fuel ⟨x0,hz,J0⟩ ?_
     rintro m a' w' ⟨x,hx,ρ1,a1,n1,s2⟩
     cases m with
     | zero =>cases hx
     | succ k =>
      refine aj6 hm hc c (out:=z) (Q:=Exit.then (fun a' w' =>∃ m',m'<k+1∧∃ x,lpF _ m' x=some z∧∃ ρ',aaB n ρ ρ'∧n≤(itB S items x n).2.2∧Sta nt B W (dR ρ' ((itB S items x n).1++(afF (aj7 c) R++C))) (dS S.kt ρ' (Hr++Z) (itB S items x n).2.1 F) a' w') Q) hx ?_ ?_ ?_ a' w' (axU s2)
      ·intro ρ2 R' n' H' ha hle hk a2 w2 s3
       obtain ⟨x',H'',hA,hx'⟩:=alf hk
       exact ⟨k,Nat.lt_succ_self k,x',hx',aoo hA (a1.trans ha n1) hC hZ s3⟩
      ·intro j ρ2 R' n' H' ha hle hk a2 w2 s3
       have hk':(match Nat.beq j ex with | true =>itF S n (Hr++Z) items some | false =>fun _ _ _ =>none) R' n' H'=some z:=hk
       cases e:Nat.beq j ex with
       | true =>
        rw [e] at hk'
        obtain rfl:=Nat.eq_of_beq_eq_true e
        obtain ⟨x',H'',hA,hx'⟩:=alf hk'
        obtain rfl:x'=z:=Option.some.inj hx'
        obtain ⟨ρ3,a3,n3,s4⟩:=aoo hA (a1.trans ha n1) hC hZ s3
        refine he j ρ3 _ _ _ a3 n3 h2 a2 w2 ⟨by rw [List.append_assoc]; exact s4.regs,s4.below,s4.lo,s4.sat.perm ?_⟩
        show (dH S.kt ρ3 (itB S items x' n).2.1++(dH S.kt ρ3 (Hr++Z)++[F])).Perm (dH S.kt ρ3 ((itB S items x' n).2.1++Hr)++(dH S.kt ρ3 Z++[F]))
        rw [dHa,dHa]; exact aap fun f g h1 h2 h3 =>by simp only [h1,h2,h3]; omega
       | false =>
        rw [e] at hk'
        cases hk'
      ·exact fun ρ2 R' n' H' ha hle hk =>by cases hk
    ·cases h
   ·cases h
  ·rename_i k _
   intro a w s
   refine wpIn_loop_rounds k ?_
   suffices key:∀ (k:Nat) {R:aa6} {n:Nat} {H:S.kt.H} {ρ:Env} {a:Act} {w:World},aGf S (fun R n H kn =>ev S P call hs nt c α C Z R n H kn ke kr) k R n H=some out→(∀ j,KOk S.kt Q nt B W C Z F out (.exit j) ρ n (ke j))→KOk S.kt Q nt B W C Z F out .ret ρ n kr →
     Sta nt B W (dR ρ (R++C)) (dS S.kt ρ Z H F) a w→Code.roundsIn (rf none) 0 P c Q k a w from key k h he hr s
   intro k
   induction k with
   | zero =>intro R n H ρ a w h _ _ _; cases h
   | succ k ih =>
    intro R n H ρ a w h he hr s
    rw [roundsIn_succ]
    refine aj6 hm hc c (Q:=Exit.then (Code.roundsIn (rf none) 0 P c Q k) Q) (show ev S P call hs nt c α C Z R n H (aGf S (fun R n H kn =>ev S P call hs nt c α C Z R n H kn ke kr) k) ke kr=some out from h) ?_ ?_ ?_ a w s
    ·exact fun ρ' R' n' H' ha hle hk a' w' s' =>ih hk (fun j =>(he j).from ha hle) (hr.from ha hle) s'
    ·exact fun j ρ' R' n' H' ha hle hk a' w' s' =>he j ρ' R' n' H' ha hle hk a' w' s'
    ·exact fun ρ' R' n' H' ha hle hk a' w' s' =>hr ρ' R' n' H' ha hle hk a' w' s'
  ·rename_i t vals k _
   split at h
   ·rename_i kk z hgt
    obtain ⟨m,hz,h⟩:=ayP h
    intro a w s
    refine wpIn_loop_rounds k ?_
    suffices key:∀ (k:Nat) {R:aa6} {n:Nat} {H:S.kt.H} {ρ:Env} {a:Act} {w:World},aGf S (fun R n H kn =>ev S P call hs nt c α C Z R n H kn ke kr) k R n H=some out→(∀ j,KOk S.kt Q nt B W C Z F out (.exit j) ρ n (ke j))→KOk S.kt Q nt B W C Z F out .ret ρ n kr →
      Sta nt B W (dR ρ (R++C)) (dS S.kt ρ Z H F) a w→Code.roundsIn (rf none) 0 P c Q k a w from key k h he hr ⟨aDw hgt hz s.regs,s.below,s.lo,s.sat⟩
    intro k
    induction k with
    | zero =>intro R n H ρ a w h _ _ _; cases h
    | succ k ih =>
     intro R n H ρ a w h he hr s
     rw [roundsIn_succ]
     refine aj6 hm hc c (Q:=Exit.then (Code.roundsIn (rf none) 0 P c Q k) Q) (show ev S P call hs nt c α C Z R n H (aGf S (fun R n H kn =>ev S P call hs nt c α C Z R n H kn ke kr) k) ke kr=some out from h) ?_ ?_ ?_ a w s
     ·exact fun ρ' R' n' H' ha hle hk a' w' s' =>ih hk (fun j =>(he j).from ha hle) (hr.from ha hle) s'
     ·exact fun j ρ' R' n' H' ha hle hk a' w' s' =>he j ρ' R' n' H' ha hle hk a' w' s'
     ·exact fun ρ' R' n' H' ha hle hk a' w' s' =>hr ρ' R' n' H' ha hle hk a' w' s'
   ·cases h
  ·cases h
 | .rangeFunc ..,_,_,_,_,_,_,_,_,_,_,_,_,h,_,_,_ =>by cases h
 | .scope _,_,_,_,_,_,_,_,_,_,_,_,_,h,_,_,_ =>by cases h
 | .label _,_,_,_,_,_,_,_,_,_,_,_,_,h,_,_,_ =>by cases h
 | .goto _,_,_,_,_,_,_,_,_,_,_,_,_,h,_,_,_ =>by cases h
 | .refuse _,_,_,_,_,_,_,_,_,_,_,_,_,h,_,_,_ =>by cases h
end
section
variable {K:KT} {P:Program} {nt B:Nat}
theorem asZ {R:aa6} {H:KT.H K} {ρ:Env} {a:Act} {w:World} {X:List aad} (r:Regs nt a (dR ρ R)) (s:Sat B w (dH K ρ H++X)):∀ {rs:List ResultVar} {l:List V},aFx K P R H rs=some l →
  (rs.mapM (m:=Sem) fun | .tmp t =>pure (a.tmps.getD t undef) | .cell ad t =>do loadVar t (← asAddr (a.tmps.getD ad undef))).run P w=.ok (aah ρ l) w
 | [],l,h =>by cases h; rfl
 | .tmp t::rs,l,h =>by
  unfold aFx at h
  split at h
  ·rename_i v hv
   split at h
   ·rename_i vs hvs
    cases h
    rw [List.mapM_cons]
    have:=r.has _ (alO (ρ:=ρ) hv)
    rw [aaa (a:=aay ρ v) (w':=w) (by simp [Array.getD_eq_getD_getElem?,this,pure]),aaa (asZ r s hvs)]
    rfl
   ·cases h
  ·cases h
 | .cell t T::rs,l,h =>by
  unfold aFx at h
  split at h
  ·rename_i u hu
   split at h
   ·rename_i v hv
    split at h
    ·rename_i vs hvs
     cases h
     rw [List.mapM_cons]
     have hreg:=r.has _ (alO (ρ:=ρ) hu)
     have hl:(do loadVar T (← asAddr (a.tmps.getD t undef)):Sem Value).run P w=.ok (aay ρ v) w:=by
      unfold ldV at hv
      split at hv
      ·rename_i id o
       simp only [aay] at hreg
       have e:a.tmps.getD t undef=.pointer (some ⟨(ρ.p id).1,(ρ.p id).2+o,none⟩):=by simp [Array.getD_eq_getD_getElem?,hreg]
       rw [e]
       rw [aaa (a:=(⟨(ρ.p id).1,(ρ.p id).2+o,none⟩:Addr)) (w':=w) rfl]
       split at hv
       ·rename_i hT
        exact ajt (us:=[aay ρ v]) hT rfl (fun j u hj =>by
         cases j with
         | zero =>simp at hj; subst hj; exact aya hv s
         | succ j =>simp at hj) rfl
       ·rename_i k hT
        simp only [Option.map_eq_some_iff] at hv
        obtain ⟨l,hl,rfl⟩:=hv
        obtain ⟨h1,h2⟩:=ax9 hl s
        exact ajt hT (by rw [aaS]; simpa using h1) h2 rfl
       ·cases hv
      ·cases hv
     rw [aaa hl,aaa (asZ r s hvs)]
     rfl
    ·cases h
   ·cases h
  ·cases h
theorem axN {ρ:Env} (l:List V):axM (aah ρ l)=aay ρ (aGh l):=by
 match l with
 | [] =>rfl
 | [v] =>rfl
 | _::_::_ =>rfl
theorem aqw {fn:Func} {R:aa6} {H:KT.H K} {ρ:Env} {a:Act} {w:World} {X:List aad} {l:List V} (r:Regs nt a (dR ρ R)) (s:Sat B w (dH K ρ H++X)) (h:aFx K P R H fn.results.toList=some l):(results fn a.tmps).run P w=.ok (aay ρ (aGh l)) w:=by
 unfold results
 have e:fn.results=fn.results.toList.toArray:=by simp
 rw [e,← axN]
 simp only [List.mapM_toArray]
 rw [aaa (a:=(aah ρ l).toArray) (w':=w) (by
  rw [map_eq_pure_bind]
  exact aaa (asZ r s h))]
 match l with
 | [] =>rfl
 | [v] =>rfl
 | _::_::_ =>rfl
end
def aG5:Nat→List V→aa6
 | _,[] =>[]
 | i,v::l =>(i,v)::aG5 (i+1) l
section
variable (S:Shp) (P:Program)
noncomputable def evF (call:amj S.kt) (hs:List (Nat×Hint)) {α:Type} (fn:Func) (vs:List V) (n:Nat) (Z H:S.kt.H) (k:Nat→S.kt.H→V→Option α):Option α :=
 match fn.body with
 | some c =>match Nat.ble vs.length fn.ntmps with
  | true =>ev S P call hs fn.ntmps c α [] Z (aG5 0 vs) n H
   (fun R n H =>match aFx S.kt P R H fn.results.toList with | some l =>k n H (aGh l) | none =>none) (fun _ _ _ _ =>none)
   (fun R n H =>match aFx S.kt P R H fn.results.toList with | some l =>k n H (aGh l) | none =>none)
  | false =>none
 | none =>none
noncomputable def inl (tb:List (Nat×Func)) (hs:Nat→List (Nat×Hint)) (known:amj S.kt):Nat→amj S.kt
 | 0 =>known
 | m+1 =>fun α f vs n Z H k =>match get tb f with
  | some fn =>match Nat.blt f agW with
   | true =>evF S P (inl tb hs known m) (hs f) fn vs n Z H k
   | false =>none
  | none =>known α f vs n Z H k
end
section
variable {S:Shp} {P:Program} {B:Nat} {W:World} {hs:List (Nat×Hint)}
theorem au0:∀ (l:List V) (i:Nat) (ρ:Env) (p:Nat×Value),p∈dR ρ (aG5 i l)→i≤p.1∧(aah ρ l)[p.1-i]?=some p.2
 | [],_,_,_,h =>by cases h
 | v::l,i,ρ,p,h =>by
  rcases List.mem_cons.1 h with e | e
  ·subst e
   exact ⟨Nat.le_refl _,by simp [aah]⟩
  ·obtain ⟨h1,h2⟩:=au0 l (i+1) ρ p e
   refine ⟨by omega,?_⟩
   obtain ⟨m,hm⟩:∃ m,p.1-i=m+1:=⟨p.1-(i+1),by omega⟩
   rw [hm,aah,List.getElem?_cons_succ,← h2]
   congr 1; omega
theorem aF2 (hm:P.follows .mixedOrders=true) {call:amj S.kt} (hc:alR S.kt P B W call) {α:Type} {fid:FuncId} {fn:Func} (hf:P.funcs[fid]?=some fn) {vs:List V} {n:Nat} {Z H:S.kt.H} {k:Nat→S.kt.H→V→Option α} {out:α} (h:evF S P call hs fn vs n Z H k=some out) {F:aad} {ρ:Env} {w:World}
  (hw:Cls B W (dS S.kt ρ Z H F) w):Calls P fid (aah ρ vs).toArray w fun e w' =>∃ x:Nx S.kt,(aaB n ρ x.ρ∧n≤x.n∧k x.n x.H x.v=some out)∧e=.returned (aay x.ρ x.v)∧Cls B W (dS S.kt x.ρ Z x.H F) w':=by
 unfold evF at h
 split at h
 ·rename_i c hb
  split at h
  ·rename_i hle
   have hle':=Nat.le_of_ble_eq_true hle
   refine calls_of_wp hf hb (wpIn_wide (n:=0).1 ?_)
   have key:=aj6 (nt:=fn.ntmps) (B:=B) (W:=W) (F:=F) hm hc c (Q:=bodyPost P fn fun e w' =>∃ x:Nx S.kt,(aaB n ρ x.ρ∧n≤x.n∧k x.n x.H x.v=some out)∧e=.returned (aay x.ρ x.v)∧Cls B W (dS S.kt x.ρ Z x.H F) w') (ρ:=ρ) h ?_ ?_ ?_
   ·refine key _ w (hw.st ⟨by simp [aaS]; omega,rfl,fun p hp =>?_⟩)
    rw [List.append_nil] at hp
    obtain ⟨_,h2⟩:=au0 vs 0 ρ p hp
    rw [Nat.sub_zero] at h2
    have hlt:=(List.getElem?_eq_some_iff.1 h2).1
    rw [Array.getElem?_append_left (by simpa using hlt)]
    simpa using h2
   ·intro ρ' R' n' H' ha hn hk a w' s
    rw [List.append_nil] at s
    dsimp only at hk
    split at hk
    ·rename_i l hl
     exact ⟨s.regs.defers,_,aqw s.regs s.sat hl,⟨ρ',n',H',aGh l⟩,⟨ha,hn,hk⟩,rfl,s.cls⟩
    ·cases hk
   ·exact fun j ρ' R' n' H' ha hn hk =>by cases hk
   ·intro ρ' R' n' H' ha hn hk a w' s
    rw [List.append_nil] at s
    dsimp only at hk
    split at hk
    ·rename_i l hl
     exact bodyPost_ret (aqw s.regs s.sat hl) s.regs.defers ⟨⟨ρ',n',H',aGh l⟩,⟨ha,hn,hk⟩,rfl,s.cls⟩
    ·cases hk
  ·cases h
 ·cases h
theorem aFW (hm:P.follows .mixedOrders=true) {tb:List (Nat×Func)} {hs:Nat→List (Nat×Hint)} (ht:∀ p∈tb,P.funcs[p.1]?=some p.2) {known:amj S.kt} (hk:alR S.kt P B W known):∀ m,alR S.kt P B W (inl S P tb hs known m)
 | 0 =>hk
 | m+1 =>fun α f vs n Z H k out h h1 h2 h3 F ρ w hw =>by
  unfold inl at h
  split at h
  ·rename_i fn hg
   split at h
   ·rename_i hb
    rw [adG hb]
    exact aF2 hm (aFW hm ht hk m) (ht _ (aw9 hg)) h hw
   ·cases h
  ·exact hk α f vs n Z H k out h h1 h2 h3 F ρ w hw
end
class Tb where
 tb:Nat→Int
 rg:∀ i,0≤tb i∧tb i≤255
def aIQ [T:Tb] (B:Nat) (W:World):Prop:=0<B∧∀ i:Nat,i<64→W.cell? ⟨0,i,none⟩=some (.int .u8 (T.tb i))
inductive Pk where
 | sh (s:Sh)
 | val (c:Nat)
 | ref (c:Nat)
 | mch
 | lent (c:Nat)
 | rw (c d:Nat)
inductive Rk where
 | sh (s:Sh)
 | val (c:Nat)
section
variable (S:Shp)
def pkT:Pk→Type
 | .sh s =>shT S.T S.M s
 | .val c =>S.T c
 | .ref c =>S.T c
 | .mch =>S.M
 | .lent c =>List (S.T c)
 | .rw c _ =>S.T c
def ami:List Pk→Type
 | [] =>Unit
 | p::l =>pkT S p×ami l
def rkT:Rk→Type
 | .sh s =>shT S.T S.M s
 | .val c =>S.T c
def aml:List Rk→Type
 | [] =>Unit
 | p::l =>rkT S p×aml l
def akc:List Pk→Type
 | [] =>Unit
 | .ref c::l =>S.T c×akc l
 | .mch::l =>S.M×akc l
 | .lent c::l =>List (S.T c)×akc l
 | .rw _ d::l =>S.T d×akc l
 | .sh _::l =>akc l
 | .val _::l =>akc l
def aDe (c:Nat) (x:S.T c) (v:Value):aad:=fun h =>∃ us:List Value,v=.agg us.toArray∧abW (fsS (pcS S.kt) (S.kt.vw c x) us) h
def apf:(ps:List Pk)→ami S ps→List Value→List aad
 | [],_,[] =>[]
 | .sh s::ps,x,v::vs =>pcS S.kt (vw1 S.T S.M s x.1) v::apf ps x.2 vs
 | .val c::ps,x,v::vs =>aDe S c x.1 v::apf ps x.2 vs
 | .ref c::ps,x,v::vs =>pcS S.kt (.own c x.1) v::apf ps x.2 vs
 | .mch::ps,x,v::vs =>pcS S.kt (.mach x.1) v::apf ps x.2 vs
 | .lent c::ps,x,v::vs =>pcS S.kt (.row c x.1) v::apf ps x.2 vs
 | .rw c _::ps,x,v::vs =>pcS S.kt (.own c x.1) v::apf ps x.2 vs
 | _,_,_ =>[fun _ =>False]
def ahq:(ps:List Pk)→akc S ps→List Value→List aad
 | [],_,_ =>[]
 | .sh _::ps,x,_::vs =>ahq ps x vs
 | .val _::ps,x,_::vs =>ahq ps x vs
 | .ref c::ps,x,v::vs =>pcS S.kt (.own c x.1) v::ahq ps x.2 vs
 | .mch::ps,x,v::vs =>pcS S.kt (.mach x.1) v::ahq ps x.2 vs
 | .lent c::ps,x,v::vs =>pcS S.kt (.row c x.1) v::ahq ps x.2 vs
 | .rw _ d::ps,x,v::vs =>pcS S.kt (.own d x.1) v::ahq ps x.2 vs
 | _::_,_,[] =>[]
def auy:(rs:List Rk)→aml S rs→List Value→List aad
 | [],_,[] =>[]
 | .sh s::rs,x,v::vs =>pcS S.kt (vw1 S.T S.M s x.1) v::auy rs x.2 vs
 | .val c::rs,x,v::vs =>aDe S c x.1 v::auy rs x.2 vs
 | _,_,_ =>[fun _ =>False]
def aCW [Tb] (P:Program) (f:FuncId) (ps:List Pk) (rs:List Rk) (spec:ami S ps→Option (aml S rs×akc S ps)):Prop :=
 ∀ x out,spec x=some out→∀ B W,aIQ B W→∀ vs F w,Cls B W (apf S ps x vs++[F]) w→afA P f vs.toArray w fun e w' =>∃ us,e=.returned (axM us)∧Cls B W (auy S rs out.1 us++(ahq S ps out.2 vs++[F])) w'
def cin:(ps:List Pk)→ami S ps→Nat→List V×List (Nat×Ch S.T S.M)×Nat
 | [],_,n =>([],[],n)
 | .sh s::ps,x,n =>((opF S.kt.vw n (.f (vw1 S.T S.M s x.1))).1::(cin ps x.2 (n+1)).1,chL S n (opF S.kt.vw n (.f (vw1 S.T S.M s x.1))).2++(cin ps x.2 (n+1)).2.1,(cin ps x.2 (n+1)).2.2)
 | .ref c::ps,x,n =>(.ptr n 0::(cin ps x.2 (n+1)).1,(n,.cells ((S.kt.vw c x.1).map .f))::(cin ps x.2 (n+1)).2.1,(cin ps x.2 (n+1)).2.2)
 | .rw c _::ps,x,n =>(.ptr n 0::(cin ps x.2 (n+1)).1,(n,.cells ((S.kt.vw c x.1).map .f))::(cin ps x.2 (n+1)).2.1,(cin ps x.2 (n+1)).2.2)
 | .mch::ps,x,n =>(.mc n::(cin ps x.2 (n+1)).1,(n,.mach x.1)::(cin ps x.2 (n+1)).2.1,(cin ps x.2 (n+1)).2.2)
 | .lent c::ps,x,n =>(.sl n::(cin ps x.2 (n+1)).1,(n,.row c x.1)::(cin ps x.2 (n+1)).2.1,(cin ps x.2 (n+1)).2.2)
 | .val c::ps,x,n =>(.agg (opL S n (S.kt.vw c x.1)).1::(cin ps x.2 (n+S.kt.sz c)).1,(opL S n (S.kt.vw c x.1)).2++(cin ps x.2 (n+S.kt.sz c)).2.1,(cin ps x.2 (n+S.kt.sz c)).2.2)
def awd:(rs:List Rk)→aml S rs→Nat→List V×List (Nat×Ch S.T S.M)×Nat
 | [],_,n =>([],[],n)
 | .sh s::rs,x,n =>((opF S.kt.vw n (.f (vw1 S.T S.M s x.1))).1::(awd rs x.2 (n+1)).1,chL S n (opF S.kt.vw n (.f (vw1 S.T S.M s x.1))).2++(awd rs x.2 (n+1)).2.1,(awd rs x.2 (n+1)).2.2)
 | .val c::rs,x,n =>(.agg (opL S n (S.kt.vw c x.1)).1::(awd rs x.2 (n+S.kt.sz c)).1,(opL S n (S.kt.vw c x.1)).2++(awd rs x.2 (n+S.kt.sz c)).2.1,(awd rs x.2 (n+S.kt.sz c)).2.2)
end
section
variable {S:Shp} {B:Nat} {w:World}
theorem awr {c:Nat} {x:S.T c} {v:Value} {L:List aad} (s:Sat B w (aDe S c x v::L)):∃ us:List Value,v=.agg us.toArray∧Sat B w (fsS (pcS S.kt) (S.kt.vw c x) us++L):=by
 obtain ⟨h,Hh,k1,k2,a,e,⟨us,h1,h2⟩,hL⟩:=s
 exact ⟨us,h1,h,Hh,aaj.2 ⟨k1,k2,a,e,h2,hL⟩⟩
theorem ao7:∀ {ps:List Pk} {x:ami S ps} {n:Nat} {vs:List Value} {ρ:Env} {X:Env→List aad},(∀ ρ ρ',aaB n ρ ρ'→X ρ=X ρ')→Sat B w (apf S ps x vs++X ρ) →
  ∃ ρ',aaB n ρ ρ'∧vs=aah ρ' (cin S ps x n).1∧Sat B w (dH S.kt ρ' (cin S ps x n).2.1++X ρ')
 | [],x,n,[],ρ,X,hX,s =>⟨ρ,aaB.refl _ _,rfl,s⟩
 | [],x,n,_::_,ρ,X,hX,s =>aaA s
 | .sh s0::ps,x,n,[],ρ,X,hX,s =>aaA s
 | .val c::ps,x,n,[],ρ,X,hX,s =>aaA s
 | .ref c::ps,x,n,[],ρ,X,hX,s =>aaA s
 | .mch::ps,x,n,[],ρ,X,hX,s =>aaA s
 | .lent c::ps,x,n,[],ρ,X,hX,s =>aaA s
 | .rw c _::ps,x,n,[],ρ,X,hX,s =>aaA s
 | .sh s0::ps,x,n,v::vs,ρ,X,hX,s =>by
  obtain ⟨ρ1,a1,e1,s1⟩:=aoX (n:=n) (f:=vw1 S.T S.M s0 x.1) (Y:=apf S ps x.2 vs) hX s
  obtain ⟨ρ2,a2,e2,s2⟩:=ao7 (n:=n+1) (aw6 (f:=vw1 S.T S.M s0 x.1) hX) s1
  have htop:=(aiu (K:=S.kt) (n:=n) (f:=.f (vw1 S.T S.M s0 x.1)) (Nat.zero_le _)).1
  refine ⟨ρ2,a1.trans a2 (Nat.le_succ n),?_,?_⟩
  ·simp only [cin,aah]
   rw [e1,← e2,aa5 a2 _ htop]
  ·simp only [cin,dHa]
   refine s2.perm ?_
   rw [List.append_assoc]
   exact adK _ _ _
 | .ref c::ps,x,n,v::vs,ρ,X,hX,s =>by
  obtain ⟨ρ1,a1,e1,s1⟩:=aoX (n:=n) (f:=.own c x.1) (Y:=apf S ps x.2 vs) hX s
  obtain ⟨ρ2,a2,e2,s2⟩:=ao7 (n:=n+1) (aw6 (f:=.own c x.1) hX) s1
  have htop:=(aiu (K:=S.kt) (n:=n) (f:=.f (.own c x.1)) (Nat.zero_le _)).1
  refine ⟨ρ2,a1.trans a2 (Nat.le_succ n),?_,?_⟩
  ·simp only [cin,aah]
   rw [e1,← e2,aa5 a2 _ htop]
   rfl
  ·have:dH S.kt ρ2 (cin S (.ref c::ps) x n).2.1=dH S.kt ρ2 (chL S n (opF S.kt.vw n (.f (.own c x.1))).2)++dH S.kt ρ2 (cin S ps x.2 (n+1)).2.1:=rfl
   rw [this]
   refine s2.perm ?_
   rw [List.append_assoc]
   exact adK _ _ _
 | .rw c d0::ps,x,n,v::vs,ρ,X,hX,s =>by
  obtain ⟨ρ1,a1,e1,s1⟩:=aoX (n:=n) (f:=.own c x.1) (Y:=apf S ps x.2 vs) hX s
  obtain ⟨ρ2,a2,e2,s2⟩:=ao7 (n:=n+1) (aw6 (f:=.own c x.1) hX) s1
  have htop:=(aiu (K:=S.kt) (n:=n) (f:=.f (.own c x.1)) (Nat.zero_le _)).1
  refine ⟨ρ2,a1.trans a2 (Nat.le_succ n),?_,?_⟩
  ·simp only [cin,aah]
   rw [e1,← e2,aa5 a2 _ htop]
   rfl
  ·have:dH S.kt ρ2 (cin S (.rw c d0::ps) x n).2.1=dH S.kt ρ2 (chL S n (opF S.kt.vw n (.f (.own c x.1))).2)++dH S.kt ρ2 (cin S ps x.2 (n+1)).2.1:=rfl
   rw [this]
   refine s2.perm ?_
   rw [List.append_assoc]
   exact adK _ _ _
 | .mch::ps,x,n,v::vs,ρ,X,hX,s =>by
  obtain ⟨ρ1,a1,e1,s1⟩:=aoX (n:=n) (f:=.mach x.1) (Y:=apf S ps x.2 vs) hX s
  obtain ⟨ρ2,a2,e2,s2⟩:=ao7 (n:=n+1) (aw6 (f:=.mach x.1) hX) s1
  have htop:=(aiu (K:=S.kt) (n:=n) (f:=.f (.mach x.1)) (Nat.zero_le _)).1
  refine ⟨ρ2,a1.trans a2 (Nat.le_succ n),?_,?_⟩
  ·simp only [cin,aah]
   rw [e1,← e2,aa5 a2 _ htop]
   rfl
  ·have:dH S.kt ρ2 (cin S (.mch::ps) x n).2.1=dH S.kt ρ2 (chL S n (opF S.kt.vw n (.f (.mach x.1))).2)++dH S.kt ρ2 (cin S ps x.2 (n+1)).2.1:=rfl
   rw [this]
   refine s2.perm ?_
   rw [List.append_assoc]
   exact adK _ _ _
 | .lent c::ps,x,n,v::vs,ρ,X,hX,s =>by
  obtain ⟨ρ1,a1,e1,s1⟩:=aoX (n:=n) (f:=.row c x.1) (Y:=apf S ps x.2 vs) hX s
  obtain ⟨ρ2,a2,e2,s2⟩:=ao7 (n:=n+1) (aw6 (f:=.row c x.1) hX) s1
  have htop:=(aiu (K:=S.kt) (n:=n) (f:=.f (.row c x.1)) (Nat.zero_le _)).1
  refine ⟨ρ2,a1.trans a2 (Nat.le_succ n),?_,?_⟩
  ·simp only [cin,aah]
   rw [e1,← e2,aa5 a2 _ htop]
   rfl
  ·have:dH S.kt ρ2 (cin S (.lent c::ps) x n).2.1=dH S.kt ρ2 (chL S n (opF S.kt.vw n (.f (.row c x.1))).2)++dH S.kt ρ2 (cin S ps x.2 (n+1)).2.1:=rfl
   rw [this]
   refine s2.perm ?_
   rw [List.append_assoc]
   exact adK _ _ _
 | .val c::ps,x,n,v::vs,ρ,X,hX,s =>by
  obtain ⟨us,hv,s0⟩:=awr s
  obtain ⟨ρ1,a1,e1,s1⟩:=aBp (n:=n) (l:=S.kt.vw c x.1) (Y:=apf S ps x.2 vs) hX s0
  obtain ⟨ρ2,a2,e2,s2⟩:=ao7 (n:=n+S.kt.sz c) (aKm (S.kt.sz_ok c x.1) hX) s1
  refine ⟨ρ2,a1.trans a2 (Nat.le_add_right ..),?_,?_⟩
  ·simp only [cin,aah,aay]
   rw [hv,e1,← e2,(am2 (a2.le (Nat.le_of_eq (congrArg (n+·) (S.kt.sz_ok c x.1))))).1]
  ·simp only [cin,dHa]
   refine s2.perm ?_
   rw [List.append_assoc]
   exact adK _ _ _
theorem axi:∀ {rs:List Rk} {x:aml S rs} {n:Nat} {vs:List Value} {ρ:Env} {X:Env→List aad},(∀ ρ ρ',aaB n ρ ρ'→X ρ=X ρ')→Sat B w (auy S rs x vs++X ρ) →
  ∃ ρ',aaB n ρ ρ'∧vs=aah ρ' (awd S rs x n).1∧Sat B w (dH S.kt ρ' (awd S rs x n).2.1++X ρ')
 | [],x,n,[],ρ,X,hX,s =>⟨ρ,aaB.refl _ _,rfl,s⟩
 | [],x,n,_::_,ρ,X,hX,s =>aaA s
 | .sh s0::ps,x,n,[],ρ,X,hX,s =>aaA s
 | .val c::ps,x,n,[],ρ,X,hX,s =>aaA s
 | .sh s0::ps,x,n,v::vs,ρ,X,hX,s =>by
  obtain ⟨ρ1,a1,e1,s1⟩:=aoX (n:=n) (f:=vw1 S.T S.M s0 x.1) (Y:=auy S ps x.2 vs) hX s
  obtain ⟨ρ2,a2,e2,s2⟩:=axi (n:=n+1) (aw6 (f:=vw1 S.T S.M s0 x.1) hX) s1
  have htop:=(aiu (K:=S.kt) (n:=n) (f:=.f (vw1 S.T S.M s0 x.1)) (Nat.zero_le _)).1
  refine ⟨ρ2,a1.trans a2 (Nat.le_succ n),?_,?_⟩
  ·simp only [awd,aah]
   rw [e1,← e2,aa5 a2 _ htop]
  ·simp only [awd,dHa]
   refine s2.perm ?_
   rw [List.append_assoc]
   exact adK _ _ _
 | .val c::ps,x,n,v::vs,ρ,X,hX,s =>by
  obtain ⟨us,hv,s0⟩:=awr s
  obtain ⟨ρ1,a1,e1,s1⟩:=aBp (n:=n) (l:=S.kt.vw c x.1) (Y:=auy S ps x.2 vs) hX s0
  obtain ⟨ρ2,a2,e2,s2⟩:=axi (n:=n+S.kt.sz c) (aKm (S.kt.sz_ok c x.1) hX) s1
  refine ⟨ρ2,a1.trans a2 (Nat.le_add_right ..),?_,?_⟩
  ·simp only [awd,aah,aay]
   rw [hv,e1,← e2,(am2 (a2.le (Nat.le_of_eq (congrArg (n+·) (S.kt.sz_ok c x.1))))).1]
  ·simp only [awd,dHa]
   refine s2.perm ?_
   rw [List.append_assoc]
   exact adK _ _ _
end
section
variable (S:Shp)
def aLq (H:S.kt.H) (c:Nat) (v:V):Option (S.T c×S.kt.H) :=
 match v with
 | .agg l =>match awf S.kt (asm S.kt) H (S.kt.vw c (S.kt.df c)) (l.map .v) with
  | some (fs,H') =>match S.kt.bk c fs with
   | some x =>some (x,H')
   | none =>none
  | none =>none
 | _ =>none
def aIO:(rs:List Rk)→S.kt.H→List V→Option (aml S rs×S.kt.H)
 | [],H,[] =>some ((),H)
 | .sh s::rs,H,v::vs =>match azY S H s v with
  | some (x,H1) =>match aIO rs H1 vs with
   | some (r,H2) =>some ((x,r),H2)
   | none =>none
  | none =>none
 | .val c::rs,H,v::vs =>match aLq S H c v with
  | some (x,H1) =>match aIO rs H1 vs with
   | some (r,H2) =>some ((x,r),H2)
   | none =>none
  | none =>none
 | _,_,_ =>none
def azX:(ps:List Pk)→Nat→S.kt.H→Option (akc S ps×S.kt.H)
 | [],_,H =>some ((),H)
 | .sh _::ps,n,H =>azX ps (n+1) H
 | .val c::ps,n,H =>azX ps (n+S.kt.sz c) H
 | .ref c::ps,n,H =>match azY S H (.own c) (.ptr n 0) with
  | some (x,H1) =>match azX ps (n+1) H1 with
   | some (r,H2) =>some ((x,r),H2)
   | none =>none
  | none =>none
 | .rw _ c::ps,n,H =>match azY S H (.own c) (.ptr n 0) with
  | some (x,H1) =>match azX ps (n+1) H1 with
   | some (r,H2) =>some ((x,r),H2)
   | none =>none
  | none =>none
 | .mch::ps,n,H =>match azY S H .mach (.mc n) with
  | some (x,H1) =>match azX ps (n+1) H1 with
   | some (r,H2) =>some ((x,r),H2)
   | none =>none
  | none =>none
 | .lent c::ps,n,H =>match azY S H (.row c) (.sl n) with
  | some (x,H1) =>match azX ps (n+1) H1 with
   | some (r,H2) =>some ((x,r),H2)
   | none =>none
  | none =>none
def aLE:List Rk→V→Option (List V)
 | [_],v =>some [v]
 | _,.tup l =>match Nat.beq l.length 1 with
  | true =>none
  | false =>some l
 | _,_ =>none
def aIJ (ps:List Pk) (rs:List Rk):Nat→S.kt.H→V→Option (aml S rs×akc S ps):=fun _ H v =>
 match aLE rs v with
 | some l =>match aIO S rs (aLn S.kt H) l with
  | some (r,H1) =>match azX S ps 0 H1 with
   | some (o,_) =>some (r,o)
   | none =>none
  | none =>none
 | none =>none
end
section
variable {S:Shp} {B:Nat} {w:World}
theorem aCL {H H':S.kt.H} {c:Nat} {v:V} {x:S.T c} (h:aLq S H c v=some (x,H')) {ρ:Env} {X:List aad} (s:Sat B w (dH S.kt ρ H++X)):Sat B w (aDe S c x (aay ρ v)::(dH S.kt ρ H'++X)):=by
 unfold aLq at h
 split at h
 ·rename_i l
  split at h
  ·rename_i fs H1 hl
   split at h
   ·rename_i y hy
    cases h
    have s1:=ajN arF hl (ρ:=ρ) (X:=X) (vs:=aah ρ l) (s.imp fun k hk =>ajy hk)
    rw [← S.kt.bk_ok _ _ _ hy] at s1
    refine s1.imp fun k hk =>?_
    obtain ⟨k1,k2,a,e,g1,g2⟩:=aaj.1 hk
    exact ⟨k1,k2,a,e,⟨aah ρ l,rfl,g1⟩,g2⟩
   ·cases h
  ·cases h
 ·cases h
theorem auh:∀ {rs:List Rk} {H H':S.kt.H} {vs:List V} {r:aml S rs},aIO S rs H vs=some (r,H')→∀ {ρ:Env} {X:List aad},Sat B w (dH S.kt ρ H++X)→Sat B w (auy S rs r (aah ρ vs)++(dH S.kt ρ H'++X))
 | [],H,H',[],r,h,ρ,X,s =>by cases h; exact s
 | [],_,_,_::_,_,h,_,_,_ =>by cases h
 | .sh s0::rs,H,H',[],r,h,_,_,_ =>by cases h
 | .val c::rs,H,H',[],r,h,_,_,_ =>by cases h
 | .sh s0::rs,H,H',v::vs,r,h,ρ,X,s =>by
  unfold aIO at h
  split at h
  ·rename_i x H1 h1
   split at h
   ·rename_i r' H2 h2
    cases h
    have s1:=aiC h1 s
    have s2:=auh h2 (X:=pcS S.kt (vw1 S.T S.M s0 x) (aay ρ v)::X) (s1.perm (List.perm_middle (l₁:=dH S.kt ρ H1)).symm)
    exact s2.perm (aj2 _ _ _ _)
   ·cases h
  ·cases h
 | .val c::rs,H,H',v::vs,r,h,ρ,X,s =>by
  unfold aIO at h
  split at h
  ·rename_i x H1 h1
   split at h
   ·rename_i r' H2 h2
    cases h
    have s1:=aCL h1 s
    have s2:=auh h2 (X:=aDe S c x (aay ρ v)::X) (s1.perm (List.perm_middle (l₁:=dH S.kt ρ H1)).symm)
    exact s2.perm (aj2 _ _ _ _)
   ·cases h
  ·cases h
def apd (S:Shp) (ρ:Env):List Pk→Nat→List Value→Prop
 | [],_,_ =>True
 | .sh _::ps,n,_::vs =>apd S ρ ps (n+1) vs
 | .val c::ps,n,_::vs =>apd S ρ ps (n+S.kt.sz c) vs
 | .ref _::ps,n,v::vs =>v=aay ρ (.ptr n 0)∧apd S ρ ps (n+1) vs
 | .rw _ _::ps,n,v::vs =>v=aay ρ (.ptr n 0)∧apd S ρ ps (n+1) vs
 | .mch::ps,n,v::vs =>v=aay ρ (.mc n)∧apd S ρ ps (n+1) vs
 | .lent _::ps,n,v::vs =>v=aay ρ (.sl n)∧apd S ρ ps (n+1) vs
 | _::_,_,[] =>False
theorem akV:∀ {ps:List Pk} {n:Nat} {H H':S.kt.H} {o:akc S ps},azX S ps n H=some (o,H')→∀ {ρ:Env} {vs:List Value} {X:List aad},apd S ρ ps n vs→Sat B w (dH S.kt ρ H++X)→Sat B w (ahq S ps o vs++(dH S.kt ρ H'++X))
 | [],n,H,H',o,h,ρ,vs,X,_,s =>by
  cases h
  cases vs<;>exact s
 | _::_,n,H,H',o,h,ρ,[],X,ha,s =>by
  rename_i p ps
  cases p<;>exact ha.elim
 | .sh _::ps,n,H,H',o,h,ρ,v::vs,X,ha,s =>akV (ps:=ps) (n:=n+1) h ha s
 | .val c::ps,n,H,H',o,h,ρ,v::vs,X,ha,s =>akV (ps:=ps) (n:=n+S.kt.sz c) h ha s
 | .ref c::ps,n,H,H',o,h,ρ,v::vs,X,ha,s =>by
  unfold azX at h
  split at h
  ·rename_i x H1 h1
   split at h
   ·rename_i r H2 h2
    cases h
    have s1:=aiC h1 s
    have s2:=akV h2 (X:=pcS S.kt (vw1 S.T S.M (.own c) x) (aay ρ (.ptr n 0))::X) ha.2 (s1.perm (List.perm_middle (l₁:=dH S.kt ρ H1)).symm)
    have s3:=s2.perm (aj2 _ _ _ _)
    rw [← ha.1] at s3
    exact s3
   ·cases h
  ·cases h
 | .rw _ c::ps,n,H,H',o,h,ρ,v::vs,X,ha,s =>by
  unfold azX at h
  split at h
  ·rename_i x H1 h1
   split at h
   ·rename_i r H2 h2
    cases h
    have s1:=aiC h1 s
    have s2:=akV h2 (X:=pcS S.kt (vw1 S.T S.M (.own c) x) (aay ρ (.ptr n 0))::X) ha.2 (s1.perm (List.perm_middle (l₁:=dH S.kt ρ H1)).symm)
    have s3:=s2.perm (aj2 _ _ _ _)
    rw [← ha.1] at s3
    exact s3
   ·cases h
  ·cases h
 | .mch::ps,n,H,H',o,h,ρ,v::vs,X,ha,s =>by
  unfold azX at h
  split at h
  ·rename_i x H1 h1
   split at h
   ·rename_i r H2 h2
    cases h
    have s1:=aiC h1 s
    have s2:=akV h2 (X:=pcS S.kt (vw1 S.T S.M .mach x) (aay ρ (.mc n))::X) ha.2 (s1.perm (List.perm_middle (l₁:=dH S.kt ρ H1)).symm)
    have s3:=s2.perm (aj2 _ _ _ _)
    rw [← ha.1] at s3
    exact s3
   ·cases h
  ·cases h
 | .lent c::ps,n,H,H',o,h,ρ,v::vs,X,ha,s =>by
  unfold azX at h
  split at h
  ·rename_i x H1 h1
   split at h
   ·rename_i r H2 h2
    cases h
    have s1:=aiC h1 s
    have s2:=akV h2 (X:=pcS S.kt (vw1 S.T S.M (.row c) x) (aay ρ (.sl n))::X) ha.2 (s1.perm (List.perm_middle (l₁:=dH S.kt ρ H1)).symm)
    have s3:=s2.perm (aj2 _ _ _ _)
    rw [← ha.1] at s3
    exact s3
   ·cases h
  ·cases h
theorem aim:∀ {ps:List Pk} {x:ami S ps} {n:Nat} {ρ ρ':Env} {vs:List Value},vs=aah ρ (cin S ps x n).1→aaB (cin S ps x n).2.2 ρ ρ'→apd S ρ' ps n vs∧n≤(cin S ps x n).2.2
 | [],x,n,ρ,ρ',vs,h,a =>⟨trivial,Nat.le_refl _⟩
 | .sh s0::ps,x,n,ρ,ρ',vs,h,a =>by
  subst h
  obtain ⟨h1,h2⟩:=aim (ps:=ps) (x:=x.2) (n:=n+1) rfl a
  exact ⟨h1,Nat.le_trans (Nat.le_succ n) h2⟩
 | .val c::ps,x,n,ρ,ρ',vs,h,a =>by
  subst h
  obtain ⟨h1,h2⟩:=aim (ps:=ps) (x:=x.2) (n:=n+S.kt.sz c) rfl a
  exact ⟨h1,Nat.le_trans (Nat.le_add_right ..) h2⟩
 | .ref c::ps,x,n,ρ,ρ',vs,h,a =>by
  subst h
  obtain ⟨h1,h2⟩:=aim (ps:=ps) (x:=x.2) (n:=n+1) rfl a
  refine ⟨⟨?_,h1⟩,Nat.le_trans (Nat.le_succ n) h2⟩
  exact aa5 (v:=.ptr n 0) (n:=n+1) (a.le h2) (Nat.le_refl _)
 | .rw c _::ps,x,n,ρ,ρ',vs,h,a =>by
  subst h
  obtain ⟨h1,h2⟩:=aim (ps:=ps) (x:=x.2) (n:=n+1) rfl a
  refine ⟨⟨?_,h1⟩,Nat.le_trans (Nat.le_succ n) h2⟩
  exact aa5 (v:=.ptr n 0) (n:=n+1) (a.le h2) (Nat.le_refl _)
 | .mch::ps,x,n,ρ,ρ',vs,h,a =>by
  subst h
  obtain ⟨h1,h2⟩:=aim (ps:=ps) (x:=x.2) (n:=n+1) rfl a
  refine ⟨⟨?_,h1⟩,Nat.le_trans (Nat.le_succ n) h2⟩
  exact aa5 (v:=.mc n) (n:=n+1) (a.le h2) (Nat.le_refl _)
 | .lent c::ps,x,n,ρ,ρ',vs,h,a =>by
  subst h
  obtain ⟨h1,h2⟩:=aim (ps:=ps) (x:=x.2) (n:=n+1) rfl a
  refine ⟨⟨?_,h1⟩,Nat.le_trans (Nat.le_succ n) h2⟩
  exact aa5 (v:=.sl n) (n:=n+1) (a.le h2) (Nat.le_refl _)
theorem ax5 {rs:List Rk} {v:V} {l:List V} (h:aLE rs v=some l) (ρ:Env):aay ρ v=axM (aah ρ l):=by
 unfold aLE at h
 split at h
 ·cases h; rfl
 ·split at h
  ·cases h
  ·rename_i l' hne
   cases h
   match l,hne with
   | [],_ =>rfl
   | [_],hne =>cases hne
   | _::_::_,_ =>rfl
 ·cases h
theorem aE0 [Tb] {P:Program} (hm:P.follows .mixedOrders=true) {f:FuncId} {fn:Func} (hf:P.funcs[f]?=some fn) {call:amj S.kt} (hc:∀ B W,aIQ B W→alR S.kt P B W call) {hs:List (Nat×Hint)} {ps:List Pk} {rs:List Rk} {spec:ami S ps→Option (aml S rs×akc S ps)}
  (h:∀ x,evF S P call hs fn (cin S ps x 0).1 (cin S ps x 0).2.2 [] (cin S ps x 0).2.1 (aIJ S ps rs)=spec x) (hb:Nat.blt f agW=true:=by rfl):aCW S P f ps rs spec:=by
 intro x out hx B W hg vs F w hw
 obtain ⟨ρ,_,e1,s1⟩:=ao7 (n:=0) (ρ:=⟨fun _ =>(0,0),fun _ =>⟨none,0,0⟩,fun _ =>undef⟩) (X:=fun _ =>[F]) (fun _ _ _ =>rfl) hw.2.2
 have s2:Cls B W (dS S.kt ρ [] (cin S ps x 0).2.1 F) w:=⟨hw.1,hw.2.1,s1⟩
 have h1:=aF2 hm (hc B W hg) hf ((h x).trans hx) s2
 rw [← e1] at h1
 rw [adG hb]
 refine h1.mono fun e w' ⟨y,⟨ha,hn,hk⟩,he,hb1,hb2,hs⟩ =>?_
 unfold aIJ at hk
 split at hk
 ·rename_i l hl
  split at hk
  ·rename_i r H1 hr
   split at hk
   ·rename_i o H2 ho
    cases hk
    have s3:=auh hr (X:=[F]) (at0 hs)
    have s4:Sat B w' (dH S.kt y.ρ H1++(auy S rs r (aah y.ρ l)++[F])):=s3.perm (adK _ _ _)
    have s5:=akV ho (aim e1 ha).1 s4
    refine ⟨aah y.ρ l,?_,hb1,hb2,?_⟩
    ·rw [he,ax5 hl]
    ·have s6:=s5.perm (adK (ahq S ps o vs) (dH S.kt y.ρ H2) (auy S rs r (aah y.ρ l)++[F]))
     have s7:Sat B w' (ahq S ps o vs++(auy S rs r (aah y.ρ l)++[F])):=s6.imp fun _ =>ahF
     exact s7.perm (adK _ _ _)
   ·cases hk
  ·cases hk
 ·cases hk
end
inductive RemC (T:Nat→Type) (M:Type) (c:Nat) where
 | cells (id:Nat) (pre post:List (Fd T M))
 | elt (j:Nat) (i:Int) (xs:List (T c))
section
variable (S:Shp)
def azj (H:S.kt.H) (c:Nat) (v:V):Option (S.T c×S.kt.H×RemC S.T S.M c) :=
 match v with
 | .ptr id o =>match get H id with
  | some (.cells fs) =>match Nat.ble (o+S.kt.sz c) fs.length with
   | true =>match awf S.kt (asm S.kt) (del H id) (S.kt.vw c (S.kt.df c)) ((fs.drop o).take (S.kt.sz c)) with
    | some (l,H1) =>match S.kt.bk c l with
     | some x =>some (x,H1,.cells id (fs.take o) (fs.drop (o+S.kt.sz c)))
     | none =>none
    | none =>none
   | false =>none
  | some (.elt j i sz) =>match Nat.beq o 0 && Nat.beq sz (S.kt.sz c) with
   | true =>match get H j with
    | some (.row c' xs) =>match aov c' c xs with
     | some ys =>some (atL (S.df c) ys i,del H j,.elt j i ys)
     | none =>none
    | _ =>none
   | false =>none
  | _ =>none
 | _ =>none
def awu (c:Nat) (x:S.T c) (H:S.kt.H):RemC S.T S.M c→S.kt.H
 | .cells id pre post =>(id,.cells (pre++((S.kt.vw c x).map .f++post)))::H
 | .elt j i xs =>(j,.row c (xs.set i.toNat x))::H
def auw (ρ:Env) (c:Nat):RemC S.T S.M c→aad
 | .cells id pre post =>fun h =>∃ us ws:List Value,us.length=pre.length∧abW (pts (ρ.p id).1 (ρ.p id).2 us::pts (ρ.p id).1 ((ρ.p id).2+pre.length+S.kt.sz c) ws::(fsS (fS S.kt ρ) pre us++fsS (fS S.kt ρ) post ws)) h
 | .elt j i xs =>fun h =>∃ (b o:Nat) (vss:List (List Value)) (spare:List Value) (N:List aad),(0≤i∧i<(xs.length:Int))∧((ρ.s j).a=some ⟨b,o,none⟩∧(ρ.s j).n=xs.length)∧(vss.length=xs.length∧∀ v∈vss,v.length=S.kt.sz c) ∧
   (xs.length≤(ρ.s j).c∧(ρ.s j).c≤maxLen∧spare.length=((ρ.s j).c-xs.length)*S.kt.sz c)∧(∀ x' vs',(abX S.kt (pcS S.kt) c (xs.set i.toNat x') (vss.set i.toNat vs')).Perm (fsS (pcS S.kt) (S.kt.vw c x') vs'++N)) ∧
   abW (pts b o (vss.flatten.take (i.toNat*S.kt.sz c))::pts b (o+i.toNat*S.kt.sz c+S.kt.sz c) (vss.flatten.drop (i.toNat*S.kt.sz c+S.kt.sz c)++spare)::N) h
def adl (ρ:Env) (c:Nat):RemC S.T S.M c→Nat×Nat
 | .cells id pre _ =>((ρ.p id).1,(ρ.p id).2+pre.length)
 | .elt j i _ =>match (ρ.s j).a with
  | some a =>(a.block,a.off+i.toNat*S.kt.sz c)
  | none =>(0,0)
end
section
variable {S:Shp} {B:Nat} {w:World} {ρ:Env}
theorem anT {α:Type} {A:α→aad} {L:List aad} (s:Sat B w ((fun h =>∃ x,A x h)::L)):∃ x,Sat B w (A x::L):=by
 obtain ⟨h,Hh,k1,k2,a,e,⟨x,hx⟩,hL⟩:=s
 exact ⟨x,h,Hh,k1,k2,a,e,hx,hL⟩
theorem aDE {N L:List aad} (s:Sat B w (abW N::L)):Sat B w (N++L):=by
 obtain ⟨h,Hh,k1,k2,a,e,hx,hL⟩:=s
 exact ⟨h,Hh,aaj.2 ⟨k1,k2,a,e,hx,hL⟩⟩
theorem ak4 {N L:List aad} {A:aad} (f:∀ h,abW N h→A h) (s:Sat B w (N++L)):Sat B w (A::L):=by
 obtain ⟨h,Hh,hs⟩:=s
 obtain ⟨k1,k2,a,e,g1,g2⟩:=aaj.1 hs
 exact ⟨h,Hh,k1,k2,a,e,f _ g1,g2⟩
theorem av7 {H H1:S.kt.H} {c:Nat} {v:V} {x:S.T c} {r:RemC S.T S.M c} (h:azj S H c v=some (x,H1,r)) {X:List aad} (s:Sat B w (dH S.kt ρ H++X)) :
  aay ρ v=.pointer (some ⟨(adl S ρ c r).1,(adl S ρ c r).2,none⟩)∧Sat B w (obS S.kt c x (adl S ρ c r)::auw S ρ c r::(dH S.kt ρ H1++X)):=by
 unfold azj at h
 split at h
 ·rename_i id o
  split at h
  ·rename_i fs hg
   split at h
   ·rename_i hB
    split at h
    ·rename_i l H2 hl
     split at h
     ·rename_i y hy
      cases h
      have hle:=Nat.le_of_ble_eq_true hB
      obtain ⟨vs,s1⟩:=ah6 (s.imp (aaV (ρ:=ρ) hg))
      have hlen:=akl s1
      have hol:(fs.take o).length=o:=by simp; omega
      refine ⟨by simp [aay,adl,hol],?_⟩
      -- three parts
      have e1:fsS (fS S.kt ρ) fs vs=fsS (fS S.kt ρ) (fs.take o) (vs.take o)++(fsS (fS S.kt ρ) ((fs.drop o).take (S.kt.sz c)) ((vs.drop o).take (S.kt.sz c))++fsS (fS S.kt ρ) (fs.drop (o+S.kt.sz c)) (vs.drop (o+S.kt.sz c))):=by
       conv =>lhs; rw [← List.take_append_drop o fs,← List.take_append_drop o vs,ajz (by simp [hlen])]
       conv =>lhs; arg 2; rw [← List.take_append_drop (S.kt.sz c) (fs.drop o),← List.take_append_drop (S.kt.sz c) (vs.drop o),ajz (by simp [hlen]),List.drop_drop,List.drop_drop]
      have e2:vs=vs.take o++((vs.drop o).take (S.kt.sz c)++vs.drop (o+S.kt.sz c)):=by
       rw [← List.drop_drop,List.take_append_drop,List.take_append_drop]
      have s2:Sat B w (pts (ρ.p id).1 (ρ.p id).2 (vs.take o++((vs.drop o).take (S.kt.sz c)++vs.drop (o+S.kt.sz c)))::(fsS (fS S.kt ρ) fs vs++(dH S.kt ρ (del H id)++X))):=by rw [← e2]; exact s1
      have s3:=s2.imp an1
      have hvo:(vs.take o).length=o:=by simp; omega
      rw [hvo] at s3
      have s4:Sat B w (pts (ρ.p id).1 ((ρ.p id).2+o) ((vs.drop o).take (S.kt.sz c)++vs.drop (o+S.kt.sz c))::pts (ρ.p id).1 (ρ.p id).2 (vs.take o)::(fsS (fS S.kt ρ) fs vs++(dH S.kt ρ (del H id)++X))):=s3.perm (List.Perm.swap ..)
      have s5:=s4.imp an1
      have hvm:((vs.drop o).take (S.kt.sz c)).length=S.kt.sz c:=by rw [List.length_take,List.length_drop]; omega
      rw [hvm,e1] at s5
      -- the middle is put together
      have s6:Sat B w (fsS (fS S.kt ρ) ((fs.drop o).take (S.kt.sz c)) ((vs.drop o).take (S.kt.sz c))++(dH S.kt ρ (del H id)++(pts (ρ.p id).1 ((ρ.p id).2+o) ((vs.drop o).take (S.kt.sz c))::((pts (ρ.p id).1 (ρ.p id).2 (vs.take o)::pts (ρ.p id).1 ((ρ.p id).2+o+S.kt.sz c) (vs.drop (o+S.kt.sz c))::(fsS (fS S.kt ρ) (fs.take o) (vs.take o)++fsS (fS S.kt ρ) (fs.drop (o+S.kt.sz c)) (vs.drop (o+S.kt.sz c))))++X)))):=by
       refine s5.perm ?_
       refine List.Perm.symm ?_
       refine (aj2 _ _ _ _).trans (List.Perm.cons _ ?_)
       simp only [List.cons_append]
       refine (aj2 _ _ _ _).trans ?_
       refine List.Perm.trans (List.Perm.cons _ (aj2 _ _ _ _)) ?_
       refine (List.Perm.swap ..).trans (List.Perm.cons _ (List.Perm.cons _ ?_))
       simp only [List.append_assoc]
       -- mid ++ (H ++ (pre ++ (post ++ X)))  ~  pre ++ (mid ++ (post ++ (H ++ X)))
       refine (List.Perm.append_left _ (adK _ _ _)).trans ?_
       refine (adK _ _ _).trans (List.Perm.append_left _ (List.Perm.append_left _ (adK _ _ _)))
      have s7:=ajN arF hl s6
      have s8:Sat B w ((pts (ρ.p id).1 ((ρ.p id).2+o) ((vs.drop o).take (S.kt.sz c))::fsS (pcS S.kt) l ((vs.drop o).take (S.kt.sz c)))++((pts (ρ.p id).1 (ρ.p id).2 (vs.take o)::pts (ρ.p id).1 ((ρ.p id).2+o+S.kt.sz c) (vs.drop (o+S.kt.sz c))::(fsS (fS S.kt ρ) (fs.take o) (vs.take o)++fsS (fS S.kt ρ) (fs.drop (o+S.kt.sz c)) (vs.drop (o+S.kt.sz c))))++(dH S.kt ρ H1++X))):=by
       refine s7.perm ?_
       refine (aj2 _ _ _ _).trans ?_
       simp only [List.cons_append]
       refine List.Perm.cons _ (List.Perm.append_left _ ?_)
       exact adK (dH S.kt ρ H1) (pts (ρ.p id).1 (ρ.p id).2 (vs.take o)::pts (ρ.p id).1 ((ρ.p id).2+o+S.kt.sz c) (vs.drop (o+S.kt.sz c))::(fsS (fS S.kt ρ) (fs.take o) (vs.take o)++fsS (fS S.kt ρ) (fs.drop (o+S.kt.sz c)) (vs.drop (o+S.kt.sz c)))) X
      refine ak4 (fun k hk =>?_) (?_:Sat B w ((pts (ρ.p id).1 ((ρ.p id).2+o) ((vs.drop o).take (S.kt.sz c))::fsS (pcS S.kt) l ((vs.drop o).take (S.kt.sz c)))++(auw S ρ c (.cells id (fs.take o) (fs.drop (o+S.kt.sz c)))::(dH S.kt ρ H1++X))))
      ·refine aiv.2 ⟨(vs.drop o).take (S.kt.sz c),?_⟩
       rw [S.kt.bk_ok _ _ _ hy]
       simpa [adl,hol] using hk
      ·have s9:=s8.perm List.perm_append_comm
       rw [List.append_assoc] at s9
       have s10:=ak4 (A:=auw S ρ c (.cells id (fs.take o) (fs.drop (o+S.kt.sz c)))) (fun k hk =>⟨vs.take o,vs.drop (o+S.kt.sz c),by rw [hvo,hol],by rw [hol]; exact hk⟩) s9
       refine s10.perm ?_
       refine List.Perm.symm ?_
       refine (List.perm_middle).trans (List.Perm.cons _ List.perm_append_comm)
     ·cases h
    ·cases h
   ·cases h
  ·rename_i j i sz hel
   split at h
   ·rename_i hB
    split at h
    ·rename_i c' xs hg
     split at h
     ·rename_i ys hy
      cases h
      obtain ⟨rfl,rfl⟩:=ahp hy
      simp only [Bool.and_eq_true] at hB
      obtain rfl:=Nat.eq_of_beq_eq_true hB.1
      obtain rfl:=Nat.eq_of_beq_eq_true hB.2
      obtain ⟨hi,b,o2,hA,hp⟩:=avK s hel
      obtain ⟨hn,vss,h2,h3,s2⟩:=alG s hg
      rw [hn] at hi
      have hxi:=adL (d:=S.df c') hi
      have hlt:i.toNat<vss.length:=by omega
      have hvs:vss[i.toNat]?=some vss[i.toNat]:=List.getElem?_eq_getElem hlt
      have hvl:=h3 _ (List.getElem_mem hlt)
      refine ⟨by simp [aay,adl,hA,hp],?_⟩
      obtain ⟨hh,Hh,k1,k2,a,e,⟨r1,r2,r3,r4⟩,hL⟩:=s2
      rcases r4 with ⟨r4,_⟩ | ⟨b',o',spare,hA',hsp,hpts⟩
      ·rw [r4] at hA; cases hA
      ·rw [hA] at hA'
       cases hA'
       obtain ⟨N,p1,p2⟩:=aiJ (pc:=pcS S.kt) hxi hvs
       have hfl:=aeG h3
       have hlow:i.toNat*S.kt.sz c'+S.kt.sz c'≤vss.flatten.length:=by
        rw [hfl]
        have:(i.toNat+1)*S.kt.sz c'≤vss.length*S.kt.sz c':=Nat.mul_le_mul_right _ hlt
        rw [Nat.add_mul] at this; omega
       have hmid:(vss.flatten.drop (i.toNat*S.kt.sz c')).take (S.kt.sz c')=vss[i.toNat]:=by
        apply List.ext_getElem?
        intro q
        by_cases hq:q<S.kt.sz c'
        ·rw [List.getElem?_take_of_lt hq,List.getElem?_drop]
         rw [ali h3 hvs (v:=(vss[i.toNat])[q]'(by omega)) (List.getElem?_eq_getElem _),List.getElem?_eq_getElem]
        ·rw [List.getElem?_eq_none (by rw [List.length_take,List.length_drop]; omega),List.getElem?_eq_none (by omega)]
       have e2:vss.flatten++spare=vss.flatten.take (i.toNat*S.kt.sz c')++(vss[i.toNat]++(vss.flatten.drop (i.toNat*S.kt.sz c'+S.kt.sz c')++spare)):=by
        rw [← hmid,← List.drop_drop,← List.append_assoc (List.take _ _),← List.append_assoc,List.append_assoc (List.take (i.toNat*S.kt.sz c') _),List.take_append_drop,List.take_append_drop]
       have t1:Sat B w (pts b o2 (vss.flatten.take (i.toNat*S.kt.sz c')++(vss[i.toNat]++(vss.flatten.drop (i.toNat*S.kt.sz c'+S.kt.sz c')++spare)))::(abX S.kt (pcS S.kt) c' ys vss++(dH S.kt ρ (del H j)++X))):=by
        rw [← e2]; exact ⟨hh,Hh,k1,k2,a,e,hpts,hL⟩
       have t2:=t1.imp an1
       have htl:(vss.flatten.take (i.toNat*S.kt.sz c')).length=i.toNat*S.kt.sz c':=by rw [List.length_take]; omega
       rw [htl] at t2
       have t3:=(t2.perm (List.Perm.swap ..)).imp an1
       rw [hvl] at t3
       have t4:Sat B w ((pts b (o2+i.toNat*S.kt.sz c') vss[i.toNat]::fsS (pcS S.kt) (S.kt.vw c' (atL (S.df c') ys i)) vss[i.toNat])++((pts b o2 (vss.flatten.take (i.toNat*S.kt.sz c'))::pts b (o2+i.toNat*S.kt.sz c'+S.kt.sz c') (vss.flatten.drop (i.toNat*S.kt.sz c'+S.kt.sz c')++spare)::N)++(dH S.kt ρ (del H j)++X))):=by
        refine t3.perm ?_
        simp only [List.cons_append]
        refine List.Perm.cons _ ?_
        refine (List.Perm.swap ..).trans ?_
        refine List.Perm.trans ?_ (List.perm_middle).symm
        refine List.Perm.cons _ ?_
        refine List.Perm.trans ?_ (List.perm_middle).symm
        refine List.Perm.cons _ ?_
        exact (p1.append_right _).trans (by rw [List.append_assoc])
       refine ak4 (fun k hk =>?_) (?_:Sat B w ((pts b (o2+i.toNat*S.kt.sz c') vss[i.toNat]::fsS (pcS S.kt) (S.kt.vw c' (atL (S.df c') ys i)) vss[i.toNat])++(auw S ρ c' (.elt j i ys)::(dH S.kt ρ (del H j)++X))))
       ·refine aiv.2 ⟨vss[i.toNat],?_⟩
        simpa [adl,hA] using hk
       ·have s9:=t4.perm List.perm_append_comm
        rw [List.append_assoc] at s9
        have s10:=ak4 (A:=auw S ρ c' (.elt j i ys)) (fun k hk =>⟨b,o2,vss,spare,N,hi,⟨hA,hn⟩,⟨h2.symm,h3⟩,⟨r2,r3,hsp⟩,p2,hk⟩) s9
        refine s10.perm ?_
        refine List.Perm.symm ?_
        exact (List.perm_middle).trans (List.Perm.cons _ List.perm_append_comm)
     ·cases h
    ·cases h
   ·cases h
  ·cases h
 ·cases h
theorem ar1 {H:S.kt.H} {c:Nat} {x:S.T c} {r:RemC S.T S.M c} {X:List aad} (s:Sat B w (obS S.kt c x (adl S ρ c r)::auw S ρ c r::(dH S.kt ρ H++X))):Sat B w (dH S.kt ρ (awu S c x H r)++X):=by
 obtain ⟨h,Hh,k1,k2,a,e,hO,hL⟩:=s
 rw [aiv] at hO
 obtain ⟨vs,hO⟩:=hO
 have s1:Sat B w ((pts (adl S ρ c r).1 (adl S ρ c r).2 vs::fsS (pcS S.kt) (S.kt.vw c x) vs)++(auw S ρ c r::(dH S.kt ρ H++X))):=⟨h,Hh,aaj.2 ⟨k1,k2,a,e,hO,hL⟩⟩
 have hlen:(S.kt.vw c x).length=vs.length:=akl s1
 rw [S.kt.sz_ok] at hlen
 have s2:Sat B w (auw S ρ c r::((pts (adl S ρ c r).1 (adl S ρ c r).2 vs::fsS (pcS S.kt) (S.kt.vw c x) vs)++(dH S.kt ρ H++X))):=s1.perm (aap fun f g h1 h2 h3 =>by simp only [h1,h2,h3]; omega)
 cases r with
 | cells id pre post =>
  obtain ⟨us,s3⟩:=anT (show Sat B w ((fun h =>∃ us,(fun us h =>∃ ws:List Value,us.length=pre.length∧abW (pts (ρ.p id).1 (ρ.p id).2 us::pts (ρ.p id).1 ((ρ.p id).2+pre.length+S.kt.sz c) ws::(fsS (fS S.kt ρ) pre us++fsS (fS S.kt ρ) post ws)) h) us h)::((pts ((ρ.p id).1) ((ρ.p id).2+pre.length) vs::fsS (pcS S.kt) (S.kt.vw c x) vs)++(dH S.kt ρ H++X))) from s2)
  obtain ⟨ws,s4⟩:=anT s3
  obtain ⟨hu,s5⟩:us.length=pre.length∧Sat B w (abW (pts (ρ.p id).1 (ρ.p id).2 us::pts (ρ.p id).1 ((ρ.p id).2+pre.length+S.kt.sz c) ws::(fsS (fS S.kt ρ) pre us++fsS (fS S.kt ρ) post ws))::((pts ((ρ.p id).1) ((ρ.p id).2+pre.length) vs::fsS (pcS S.kt) (S.kt.vw c x) vs)++(dH S.kt ρ H++X))):=by
   obtain ⟨h',Hh',j1,j2,a',e',⟨g1,g2⟩,hL'⟩:=s4
   exact ⟨g1,h',Hh',j1,j2,a',e',g2,hL'⟩
  have s6:=aDE s5
  have s7:Sat B w (pts (ρ.p id).1 ((ρ.p id).2+pre.length) vs::pts (ρ.p id).1 ((ρ.p id).2+pre.length+S.kt.sz c) ws::(pts (ρ.p id).1 (ρ.p id).2 us::(fsS (fS S.kt ρ) pre us++(fsS (pcS S.kt) (S.kt.vw c x) vs++fsS (fS S.kt ρ) post ws))++(dH S.kt ρ H++X))):=s6.perm (aap fun f g h1 h2 h3 =>by simp only [h1,h2,h3]; omega)
  have s8:=s7.imp (an2 (by rw [← hlen]))
  have s9:=(s8.perm (List.Perm.swap ..)).imp (an2 (by rw [hu]))
  refine ak4 (N:=pts (ρ.p id).1 (ρ.p id).2 (us++(vs++ws))::(fsS (fS S.kt ρ) pre us++(fsS (pcS S.kt) (S.kt.vw c x) vs++fsS (fS S.kt ρ) post ws))) (fun k hk =>⟨us++(vs++ws),?_⟩) s9
  show abW (pts (ρ.p id).1 (ρ.p id).2 (us++(vs++ws))::fsS (fS S.kt ρ) (pre++((S.kt.vw c x).map .f++post)) (us++(vs++ws))) k
  rw [ajz hu.symm,ajz (by rw [List.length_map,S.kt.sz_ok,hlen]),ara (pcS S.kt) _ (fun x v =>rfl)]
  exact hk
 | elt j i xs =>
  obtain ⟨h',Hh',j1,j2,a',e',⟨b,o,vss,spare,N,hi,⟨hA,hn⟩,⟨hvl,hvz⟩,⟨hc1,hc2,hc3⟩,hperm,hst⟩,hL'⟩:=s2
  have s3:Sat B w ((pts b o (vss.flatten.take (i.toNat*S.kt.sz c))::pts b (o+i.toNat*S.kt.sz c+S.kt.sz c) (vss.flatten.drop (i.toNat*S.kt.sz c+S.kt.sz c)++spare)::N)++((pts (adl S ρ c (.elt j i xs)).1 (adl S ρ c (.elt j i xs)).2 vs::fsS (pcS S.kt) (S.kt.vw c x) vs)++(dH S.kt ρ H++X))):=⟨h',Hh',aaj.2 ⟨j1,j2,a',e',hst,hL'⟩⟩
  have hra:adl S ρ c (.elt j i xs)=(b,o+i.toNat*S.kt.sz c):=by simp [adl,hA]
  rw [hra] at s3
  have hlt:i.toNat<vss.length:=by omega
  have hvs:vss[i.toNat]?=some vss[i.toNat]:=List.getElem?_eq_getElem hlt
  have hfl:=aeG hvz
  have hlow:i.toNat*S.kt.sz c+S.kt.sz c≤vss.flatten.length:=by
   rw [hfl]
   have:(i.toNat+1)*S.kt.sz c≤vss.length*S.kt.sz c:=Nat.mul_le_mul_right _ hlt
   rw [Nat.add_mul] at this; omega
  have htl:(vss.flatten.take (i.toNat*S.kt.sz c)).length=i.toNat*S.kt.sz c:=by rw [List.length_take]; omega
  have s4:Sat B w (pts b (o+i.toNat*S.kt.sz c) vs::pts b (o+i.toNat*S.kt.sz c+S.kt.sz c) (vss.flatten.drop (i.toNat*S.kt.sz c+S.kt.sz c)++spare)::(pts b o (vss.flatten.take (i.toNat*S.kt.sz c))::(fsS (pcS S.kt) (S.kt.vw c x) vs++N)++(dH S.kt ρ H++X))):=s3.perm (aap fun f g h1 h2 h3 =>by simp only [h1,h2,h3]; omega)
  have s5:=s4.imp (an2 (by rw [← hlen]))
  have s6:=(s5.perm (List.Perm.swap ..)).imp (an2 (by rw [htl]))
  have e2:vss.flatten.take (i.toNat*S.kt.sz c)++(vs++(vss.flatten.drop (i.toNat*S.kt.sz c+S.kt.sz c)++spare))=(vss.set i.toNat vs).flatten++spare:=by
   have:=ajB (o:=0) (us:=vs) hvz hvs (by omega)
   have e3:(vss[i.toNat]).take 0++vs++(vss[i.toNat]).drop (0+vs.length)=vs:=by
    have:=hvz _ (List.getElem_mem hlt)
    rw [List.drop_eq_nil_of_le (by omega)]; simp
   rw [e3,Nat.add_zero,← hlen] at this
   rw [this]; simp only [List.append_assoc]
  rw [e2] at s6
  have s7:Sat B w ((pts b o ((vss.set i.toNat vs).flatten++spare)::abX S.kt (pcS S.kt) c (xs.set i.toNat x) (vss.set i.toNat vs))++(dH S.kt ρ H++X)):=s6.perm (List.Perm.cons _ ((hperm x vs).symm.append_right _))
  refine ak4 (fun k hk =>?_) s7
  obtain ⟨q1,q2,qa,qe,g1,g2⟩:=hk
  refine ⟨by rw [List.length_set]; exact hn,ac8.2 ⟨vss.set i.toNat vs,q1,q2,qa,qe,⟨?_,?_,hc2,.inr ⟨b,o,spare,hA,?_,g1⟩⟩,g2⟩⟩
  ·have hz2:∀ v∈vss.set i.toNat vs,v.length=S.kt.sz c:=fun v hv =>by
    rcases List.mem_or_eq_of_mem_set hv with e | e
    ·exact hvz v e
    ·rw [e,← hlen]
   rw [aeG hz2,List.length_set,List.length_set,hvl]
  ·rw [List.length_set]; exact hc1
  ·rw [List.length_set]; exact hc3
end
section
variable (S:Shp)
def az0:List Pk→Type
 | [] =>Unit
 | .ref c::l =>RemC S.T S.M c×az0 l
 | .mch::l =>Nat×az0 l
 | .rw _ _::l =>Nat×az0 l
 | .lent _::l =>Nat×az0 l
 | .sh _::l =>az0 l
 | .val _::l =>az0 l
def azk (Z:S.kt.H):(ps:List Pk)→S.kt.H→List V→Option (ami S ps×S.kt.H×az0 S ps)
 | [],H,[] =>some ((),H,())
 | .sh s::ps,H,v::vs =>match aLo S Z H s v with
  | some (x,H1) =>match azk Z ps H1 vs with
   | some (r,H2,m) =>some ((x,r),H2,m)
   | none =>none
  | none =>none
 | .val c::ps,H,v::vs =>match aLq S H c v with
  | some (x,H1) =>match azk Z ps H1 vs with
   | some (r,H2,m) =>some ((x,r),H2,m)
   | none =>none
  | none =>none
 | .ref c::ps,H,v::vs =>match azj S H c v with
  | some (x,H1,q) =>match azk Z ps H1 vs with
   | some (r,H2,m) =>some ((x,r),H2,(q,m))
   | none =>none
  | none =>none
 | .mch::ps,H,v::vs =>match v with
  | .mc id =>match get H id with
   | some (.mach x) =>match azk Z ps (del H id) vs with
    | some (r,H2,m) =>some ((x,r),H2,(id,m))
    | none =>none
   | _ =>none
  | _ =>none
 | .rw c _::ps,H,v::vs =>match azj S H c v with
  | some (x,H1,.cells id [] []) =>match azk Z ps H1 vs with
   | some (r,H2,m) =>some ((x,r),H2,(id,m))
   | none =>none
  | _ =>none
 | .lent c::ps,H,v::vs =>match v with
  | .sl id =>match get H id with
   | some (.row c' xs) =>match aov c' c xs with
    | some ys =>match azk Z ps (del H id) vs with
     | some (r,H2,m) =>some ((ys,r),H2,(id,m))
     | none =>none
    | none =>none
   | _ =>none
  | _ =>none
 | _,_,_ =>none
def alu:(ps:List Pk)→az0 S ps→akc S ps→S.kt.H→S.kt.H
 | [],_,_,H =>H
 | .sh _::ps,m,o,H =>alu ps m o H
 | .val _::ps,m,o,H =>alu ps m o H
 | .ref c::ps,m,o,H =>awu S c o.1 (alu ps m.2 o.2 H) m.1
 | .mch::ps,m,o,H =>(m.1,.mach o.1)::alu ps m.2 o.2 H
 | .rw _ d::ps,m,o,H =>awu S d o.1 (alu ps m.2 o.2 H) (.cells m.1 [] [])
 | .lent c::ps,m,o,H =>(m.1,.row c o.1)::alu ps m.2 o.2 H
def apq (ρ:Env):(ps:List Pk)→az0 S ps→List aad
 | [],_ =>[]
 | .sh _::ps,m =>apq ρ ps m
 | .val _::ps,m =>apq ρ ps m
 | .ref c::ps,m =>auw S ρ c m.1::apq ρ ps m.2
 | .mch::ps,m =>apq ρ ps m.2
 | .rw _ d::ps,m =>auw S ρ d (.cells m.1 [] [])::apq ρ ps m.2
 | .lent _::ps,m =>apq ρ ps m.2
def ao1 (ρ:Env):(ps:List Pk)→az0 S ps→List Value→Prop
 | [],_,_ =>True
 | .sh _::ps,m,_::vs =>ao1 ρ ps m vs
 | .val _::ps,m,_::vs =>ao1 ρ ps m vs
 | .ref c::ps,m,v::vs =>v=.pointer (some ⟨(adl S ρ c m.1).1,(adl S ρ c m.1).2,none⟩)∧ao1 ρ ps m.2 vs
 | .mch::ps,m,v::vs =>v=ρ.v m.1∧ao1 ρ ps m.2 vs
 | .rw _ d::ps,m,v::vs =>v=.pointer (some ⟨(adl S ρ d (.cells m.1 [] [])).1,(adl S ρ d (.cells m.1 [] [])).2,none⟩)∧ao1 ρ ps m.2 vs
 | .lent _::ps,m,v::vs =>v=aay ρ (.sl m.1)∧ao1 ρ ps m.2 vs
 | _::_,_,[] =>False
end
section
variable {S:Shp} {B:Nat} {w:World} {ρ:Env}
theorem aG0 {id c' c:Nat} {zs:List (S.T c')} {ys:List (S.T c)} {L:List aad} (s:Sat B w (ac6 S.kt ρ id (.row c' zs)::L)) (hq:aov c' c zs=some ys):Sat B w (pcS S.kt (.row c ys) (aay ρ (.sl id))::L):=by
 obtain ⟨e,he⟩:=ahp hq
 subst e
 subst he
 refine abl (fun k hk =>?_) s
 rw [aax]
 exact ⟨(ρ.s id).a,(ρ.s id).c,by rw [← hk.1]; rfl,hk.2⟩
theorem aJk {id c:Nat} {xs:List (S.T c)} {L:List aad} (s:Sat B w (pcS S.kt (.row c xs) (aay ρ (.sl id))::L)):Sat B w (ac6 S.kt ρ id (.row c xs)::L):=abl (fun k hk =>by
 rw [aax] at hk
 obtain ⟨A,cap,e,h⟩:=hk
 injection e with e1 e2 e3
 subst e1 e3
 exact ⟨e2,h⟩) s
theorem aJm {c d id:Nat} {L:List aad} (s:Sat B w (auw S ρ c (.cells id [] [])::L)):Sat B w (auw S ρ d (.cells id [] [])::L):=by
 refine abl (fun k _ =>⟨[],[],rfl,?_⟩) s
 exact ⟨fun _ _ =>none,k,fun _ _ =>.inl rfl,(by funext x y; rfl),fun i v h =>(by cases h),fun _ _ =>none,k,fun _ _ =>.inl rfl,(by funext x y; rfl),fun i v h =>(by cases h),trivial⟩
theorem amh {Z:S.kt.H}:∀ {ps:List Pk} {H H':S.kt.H} {vs:List V} {x:ami S ps} {m:az0 S ps},azk S Z ps H vs=some (x,H',m)→∀ {X:List aad},Sat B w (dH S.kt ρ H++(dH S.kt ρ Z++X)) →
  ao1 S ρ ps m (aah ρ vs)∧Sat B w (apf S ps x (aah ρ vs)++(apq S ρ ps m++(dH S.kt ρ H'++(dH S.kt ρ Z++X))))
 | [],H,H',[],x,m,h,X,s =>by cases h; exact ⟨trivial,s⟩
 | [],_,_,_::_,_,_,h,_,_ =>by cases h
 | .sh _::_,_,_,[],_,_,h,_,_ =>by cases h
 | .val _::_,_,_,[],_,_,h,_,_ =>by cases h
 | .ref _::_,_,_,[],_,_,h,_,_ =>by cases h
 | .mch::_,_,_,[],_,_,h,_,_ =>by cases h
 | .rw _ _::_,_,_,[],_,_,h,_,_ =>by cases h
 | .lent _::_,_,_,[],_,_,h,_,_ =>by cases h
 | .sh s0::ps,H,H',v::vs,x,m,h,X,s =>by
  unfold azk at h
  split at h
  ·rename_i y H1 h1
   split at h
   ·rename_i r H2 m' h2
    cases h
    have s1:=aCJ h1 s
    obtain ⟨l,s2⟩:=amh h2 (X:=pcS S.kt (vw1 S.T S.M s0 y) (aay ρ v)::X) (s1.perm (aap fun f g h1 h2 h3 =>by simp only [h1,h2,h3]; omega))
    exact ⟨l,s2.perm (aap fun f g h1 h2 h3 =>by simp only [h1,h2,h3,apf,aah,List.cons_append,apq]; omega)⟩
   ·cases h
  ·cases h
 | .val c::ps,H,H',v::vs,x,m,h,X,s =>by
  unfold azk at h
  split at h
  ·rename_i y H1 h1
   split at h
   ·rename_i r H2 m' h2
    cases h
    have s1:=aCL h1 s
    obtain ⟨l,s2⟩:=amh h2 (X:=aDe S c y (aay ρ v)::X) (s1.perm (aap fun f g h1 h2 h3 =>by simp only [h1,h2,h3]; omega))
    exact ⟨l,s2.perm (aap fun f g h1 h2 h3 =>by simp only [h1,h2,h3,apf,aah,List.cons_append,apq]; omega)⟩
   ·cases h
  ·cases h
 | .ref c::ps,H,H',v::vs,x,m,h,X,s =>by
  unfold azk at h
  split at h
  ·rename_i y H1 q h1
   split at h
   ·rename_i r H2 m' h2
    cases h
    obtain ⟨hv,s1⟩:=av7 h1 s
    have s1':Sat B w (pcS S.kt (.own c y) (aay ρ v)::auw S ρ c q::(dH S.kt ρ H1++(dH S.kt ρ Z++X))):=abl (fun k hk =>aax.2 (show pcW S.kt (obS S.kt) (rwS S.kt) (.own c y) (aay ρ v) k from ⟨_,hv,hk⟩)) s1
    obtain ⟨l,s2⟩:=amh h2 (X:=pcS S.kt (.own c y) (aay ρ v)::auw S ρ c q::X) (s1'.perm (aap fun f g h1 h2 h3 =>by simp only [h1,h2,h3]; omega))
    exact ⟨⟨hv,l⟩,s2.perm (aap fun f g h1 h2 h3 =>by simp only [h1,h2,h3,apf,aah,List.cons_append,apq]; omega)⟩
   ·cases h
  ·cases h
 | .rw c d::ps,H,H',v::vs,x,m,h,X,s =>by
  unfold azk at h
  split at h
  ·rename_i y H1 id h1
   split at h
   ·rename_i r H2 m' h2
    cases h
    obtain ⟨hv,s1⟩:=av7 h1 s
    have s1':Sat B w (pcS S.kt (.own c y) (aay ρ v)::auw S ρ c (.cells id [] [])::(dH S.kt ρ H1++(dH S.kt ρ Z++X))):=abl (fun k hk =>aax.2 (show pcW S.kt (obS S.kt) (rwS S.kt) (.own c y) (aay ρ v) k from ⟨_,hv,hk⟩)) s1
    have s1'':=(aJm (d:=d) (s1'.perm (List.Perm.swap ..))).perm (List.Perm.swap ..)
    obtain ⟨l,s2⟩:=amh h2 (X:=pcS S.kt (.own c y) (aay ρ v)::auw S ρ d (.cells id [] [])::X) (s1''.perm (aap fun f g h1 h2 h3 =>by simp only [h1,h2,h3]; omega))
    exact ⟨⟨hv,l⟩,s2.perm (aap fun f g h1 h2 h3 =>by simp only [h1,h2,h3,apf,aah,List.cons_append,apq]; omega)⟩
   ·cases h
  ·cases h
 | .mch::ps,H,H',v::vs,x,m,h,X,s =>by
  unfold azk at h
  split at h
  ·rename_i id
   split at h
   ·rename_i y hg
    split at h
    ·rename_i r H2 m' h2
     cases h
     have s1:=s.imp (aaV (ρ:=ρ) hg)
     obtain ⟨l,s2⟩:=amh h2 (X:=pcS S.kt (.mach y) (ρ.v id)::X) (s1.perm (aap fun f g h1 h2 h3 =>by simp only [h1,h2,h3,ac6]; omega))
     exact ⟨⟨rfl,l⟩,s2.perm (aap fun f g h1 h2 h3 =>by simp only [h1,h2,h3,apf,aah,aay,List.cons_append,apq]; omega)⟩
    ·cases h
   ·cases h
  ·cases h
 | .lent c::ps,H,H',v::vs,x,m,h,X,s =>by
  unfold azk at h
  split at h
  ·rename_i id
   split at h
   ·rename_i c' zs hg
    split at h
    ·rename_i ys hq
     split at h
     ·rename_i r H2 m' h2
      cases h
      have s1:=aG0 (s.imp (aaV (ρ:=ρ) hg)) hq
      obtain ⟨l,s2⟩:=amh h2 (X:=pcS S.kt (.row c ys) (aay ρ (.sl id))::X) (s1.perm (aap fun f g h1 h2 h3 =>by simp only [h1,h2,h3]; omega))
      exact ⟨⟨rfl,l⟩,s2.perm (aap fun f g h1 h2 h3 =>by simp only [h1,h2,h3,apf,aah,List.cons_append,apq]; omega)⟩
     ·cases h
    ·cases h
   ·cases h
  ·cases h
theorem aFK {c:Nat} {x:S.T c} {q:Nat×Nat} {L:List aad} (s:Sat B w (pcS S.kt (.own c x) (.pointer (some ⟨q.1,q.2,none⟩))::L)):Sat B w (obS S.kt c x q::L):=abl (fun k hk =>by
 rw [aax] at hk
 obtain ⟨⟨a',b'⟩,e,h⟩:=hk
 obtain ⟨a,b⟩:=q
 cases e
 exact h) s
theorem ajm:∀ {ps:List Pk} {H:S.kt.H} {m:az0 S ps} {o:akc S ps} {vs:List Value} {X:List aad},ao1 S ρ ps m vs→Sat B w (ahq S ps o vs++(apq S ρ ps m++(dH S.kt ρ H++X)))→Sat B w (dH S.kt ρ (alu S ps m o H)++X)
 | [],H,m,o,vs,X,_,s =>by cases vs<;>exact s
 | p::_,_,_,_,[],_,l,_ =>by cases p<;>exact l.elim
 | .sh _::ps,H,m,o,v::vs,X,l,s =>ajm (ps:=ps) l s
 | .val _::ps,H,m,o,v::vs,X,l,s =>ajm (ps:=ps) l s
 | .ref c::ps,H,m,o,v::vs,X,l,s =>by
  obtain ⟨hv,l'⟩:=l
  have s1:Sat B w (ahq S ps o.2 vs++(apq S ρ ps m.2++(dH S.kt ρ H++(pcS S.kt (.own c o.1) v::auw S ρ c m.1::X)))):=s.perm (aap fun f g h1 h2 h3 =>by simp only [ahq,apq,List.cons_append,h1,h2,h3]; omega)
  have s2:=ajm l' s1
  rw [hv] at s2
  have s3:=aFK (q:=adl S ρ c m.1) (s2.perm (aj2 (dH S.kt ρ (alu S ps m.2 o.2 H)) [] _ _))
  exact ar1 (s3.perm (aap fun f g h1 h2 h3 =>by simp only [h1,h2,h3]; omega))
 | .rw c d::ps,H,m,o,v::vs,X,l,s =>by
  obtain ⟨hv,l'⟩:=l
  have s1:Sat B w (ahq S ps o.2 vs++(apq S ρ ps m.2++(dH S.kt ρ H++(pcS S.kt (.own d o.1) v::auw S ρ d (.cells m.1 [] [])::X)))):=s.perm (aap fun f g h1 h2 h3 =>by simp only [ahq,apq,List.cons_append,h1,h2,h3]; omega)
  have s2:=ajm l' s1
  rw [hv] at s2
  have s3:=aFK (q:=adl S ρ d (.cells m.1 [] [])) (s2.perm (aj2 (dH S.kt ρ (alu S ps m.2 o.2 H)) [] _ _))
  exact ar1 (s3.perm (aap fun f g h1 h2 h3 =>by simp only [h1,h2,h3]; omega))
 | .mch::ps,H,m,o,v::vs,X,l,s =>by
  obtain ⟨hv,l'⟩:=l
  have s1:Sat B w (ahq S ps o.2 vs++(apq S ρ ps m.2++(dH S.kt ρ H++(pcS S.kt (.mach o.1) v::X)))):=s.perm (aap fun f g h1 h2 h3 =>by simp only [ahq,apq,List.cons_append,h1,h2,h3]; omega)
  have s2:=ajm l' s1
  rw [hv] at s2
  exact s2.perm (aap fun f g h1 h2 h3 =>by simp only [alu,dH,List.map_cons,ac6,List.cons_append,h1,h2,h3]; omega)
 | .lent c::ps,H,m,o,v::vs,X,l,s =>by
  obtain ⟨hv,l'⟩:=l
  have s1:Sat B w (ahq S ps o.2 vs++(apq S ρ ps m.2++(dH S.kt ρ H++(pcS S.kt (.row c o.1) v::X)))):=s.perm (aap fun f g h1 h2 h3 =>by simp only [ahq,apq,List.cons_append,h1,h2,h3]; omega)
  have s2:=ajm l' s1
  rw [hv] at s2
  have s3:=aJk (s2.perm (aj2 (dH S.kt ρ (alu S ps m.2 o.2 H)) [] _ _))
  exact s3.perm (aap fun f g h1 h2 h3 =>by simp only [alu,dH,List.map_cons,List.cons_append,List.nil_append,h1,h2,h3]; try omega)
structure Con (S:Shp) where
 f:FuncId
 ps:List Pk
 rs:List Rk
 spec:ami S ps→Option (aml S rs×akc S ps)
def aCd (S:Shp) (c:Con S) {α:Type} (vs:List V) (n:Nat) (Z H:S.kt.H) (k:Nat→S.kt.H→V→Option α):Option α :=
 match azk S Z c.ps (aMz S.kt H) vs with
 | some (x,H1,m) =>(c.spec x).bind fun out =>match Nat.ble (agm (alu S c.ps m out.2 H1)) n with
  | true =>k (awd S c.rs out.1 n).2.2 ((awd S c.rs out.1 n).2.1++alu S c.ps m out.2 H1) (aGh (awd S c.rs out.1 n).1)
  | false =>none
 | none =>none
def aEJ (S:Shp):List (Con S)→FuncId→Option (Con S)
 | [],_ =>none
 | c::l,f =>match Nat.beq c.f f with
  | true =>some c
  | false =>aEJ S l f
def azd (S:Shp) (cs:List (Con S)):amj S.kt:=fun _ f vs n Z H k =>match aEJ S cs f with
 | some c =>aCd S c vs n Z H k
 | none =>none
theorem aEI {cs:List (Con S)} {f:FuncId} {c:Con S} (h:aEJ S cs f=some c):c∈cs∧c.f=f:=by
 induction cs with
 | nil =>cases h
 | cons d cs ih =>
  unfold aEJ at h
  split at h
  ·rename_i e; cases h; exact ⟨List.mem_cons_self ..,Nat.eq_of_beq_eq_true e⟩
  ·obtain ⟨h1,h2⟩:=ih h; exact ⟨List.mem_cons_of_mem _ h1,h2⟩
theorem axj:∀ {rs:List Rk} {x:aml S rs} {n:Nat},n≤(awd S rs x n).2.2
 | [],_,_ =>Nat.le_refl _
 | .sh _::rs,x,n =>Nat.le_trans (Nat.le_succ n) (axj (rs:=rs) (x:=x.2))
 | .val c::rs,x,n =>Nat.le_trans (Nat.le_add_right ..) (axj (rs:=rs) (x:=x.2))
theorem avY [Tb] {P:Program} {W:World} (hg:aIQ B W) {cs:List (Con S)} (h:∀ c∈cs,aCW S P c.f c.ps c.rs c.spec):alR S.kt P B W (azd S cs):=by
 intro α fid vs n Z H k out hk h1 h2 h3 F ρ w hw
 unfold azd at hk
 split at hk
 ·rename_i c hc
  obtain ⟨hm,rfl⟩:=aEI hc
  unfold aCd at hk
  split at hk
  ·rename_i x H1 m hx
   cases hsp:c.spec x with
   | none =>rw [hsp] at hk; cases hk
   | some o =>
    rw [hsp] at hk
    simp only [Option.bind_some] at hk
    split at hk
    ·rename_i hB
     have hB':=Nat.le_of_ble_eq_true hB
     obtain ⟨l,s1⟩:=amh hx (X:=[F]) (aIt hw.2.2)
     have hcl:Cls B W (apf S c.ps x (aah ρ vs)++[aGA (apq S ρ c.ps m++(dH S.kt ρ H1++(dH S.kt ρ Z++[F])))]) w:=⟨hw.1,hw.2.1,s1.fold⟩
     refine afA.mono (h c hm x o hsp B W hg (aah ρ vs) _ w hcl) ?_
     rintro e w' ⟨us,he,hb1,hb2,hs⟩
     have s2:Sat B w' (auy S c.rs o.1 us++(ahq S c.ps o.2 (aah ρ vs)++(apq S ρ c.ps m++(dH S.kt ρ H1++(dH S.kt ρ Z++[F]))))):=by
      rw [← List.append_assoc] at hs
      have:=hs.unfold
      rwa [List.append_assoc] at this
     have s3:Sat B w' (ahq S c.ps o.2 (aah ρ vs)++(apq S ρ c.ps m++(dH S.kt ρ H1++(auy S c.rs o.1 us++(dH S.kt ρ Z++[F]))))):=s2.perm (aap fun f g h1 h2 h3 =>by simp only [h1,h2,h3]; omega)
     have s4:=ajm l s3
     have s5:Sat B w' (auy S c.rs o.1 us++(fun ρ =>dH S.kt ρ (alu S c.ps m o.2 H1)++tl S.kt Z F ρ) ρ):=s4.perm (adK _ _ _)
     obtain ⟨ρ',a,e1,s6⟩:=axi (n:=n) (X:=fun ρ =>dH S.kt ρ (alu S c.ps m o.2 H1)++tl S.kt Z F ρ) (fun ρ ρ' ha =>by
      show _++_=_++_
      rw [acH ha _ hB',adP h2 ha]) s5
     refine ⟨⟨ρ',_,_,_⟩,⟨a,axj,hk⟩,?_,hb1,hb2,?_⟩
     ·rw [he,e1,axN]; rfl
     ·rw [dS,dHa,List.append_assoc]; exact s6
    ·cases hk
  ·cases hk
 ·cases hk
end
section
variable {S:Shp}
variable [Tb]
def CO (P:Program) (c:Con S):Prop:=aCW S P c.f c.ps c.rs c.spec
def Oks (P:Program):List (Con S)→Prop
 | [] =>True
 | c::l =>CO P c∧Oks P l
theorem Oks.mem {P:Program}:∀ {l:List (Con S)},Oks P l→∀ c∈l,CO P c
 | [],_,c,h =>by cases h
 | d::l,⟨h1,h2⟩,c,h =>(List.mem_cons.1 h).elim (fun e =>by subst e; exact h1) (h2.mem c)
def Tbs (P:Program):List (Nat×Func)→Prop
 | [] =>True
 | p::l =>P.funcs[p.1]?=some p.2∧Tbs P l
theorem Tbs.mem {P:Program}:∀ {l:List (Nat×Func)},Tbs P l→∀ p∈l,P.funcs[p.1]?=some p.2
 | [],_,c,h =>by cases h
 | d::l,⟨h1,h2⟩,c,h =>(List.mem_cons.1 h).elim (fun e =>by subst e; exact h1) (h2.mem c)
noncomputable abbrev evC (P:Program) (tb:List (Nat×Func)) (hsf:Nat→List (Nat×Hint)) (cs:List (Con S)) (hs:List (Nat×Hint)) (fn:Func) (c:Con S) (x:ami S c.ps):Option (aml S c.rs×akc S c.ps) :=
 evF S P (inl S P tb hsf (azd S cs) tb.length) hs fn (cin S c.ps x 0).1 (cin S c.ps x 0).2.2 [] (cin S c.ps x 0).2.1 (aIJ S c.ps c.rs)
theorem agL {P:Program} (hm:P.follows .mixedOrders=true) {c:Con S} {fn:Func} (hf:P.funcs[c.f]?=some fn) (cs:List (Con S)) (h:Oks P cs) (tb:List (Nat×Func)) (ht:Tbs P tb) (hsf:Nat→List (Nat×Hint)) (hs:List (Nat×Hint))
  (he:∀ x,evC P tb hsf cs hs fn c x=c.spec x) (hb:Nat.blt c.f agW=true:=by rfl):CO P c :=
 aE0 hm hf (fun _ _ hg =>aFW hm ht.mem (avY hg h.mem) tb.length) he hb
theorem aal {P:Program} (hm:P.follows .mixedOrders=true) {c:Con S} {fn:Func} (hf:P.funcs[c.f]?=some fn) (cs:List (Con S)) (h:Oks P cs) (hs:List (Nat×Hint):=[]) (he:∀ x,evC P [] (fun _ =>[]) cs hs fn c x=c.spec x:=by intro x; kernel_rfl) (hb:Nat.blt c.f agW=true:=by rfl):CO P c:=agL hm hf cs h [] trivial (fun _ =>[]) hs he hb
theorem aE2 {P:Program} {c:Con S} (h:CO P c) {spec:ami S c.ps→Option (aml S c.rs×akc S c.ps)} (he:∀ x out,spec x=some out→c.spec x=some out):CO P ⟨c.f,c.ps,c.rs,spec⟩:=fun x out hx =>h x out (he x out hx)
end
end
end Go.Proofs.YtidhehdanppcoaaGreat
