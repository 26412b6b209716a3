/- The law ModelOnce,as a function of its arguments,always answers true. From the readings of the arguments to our words. From the readings of the arguments to our words: bytes,ints. -/
import Derived.Test.YtkmkhldmflebkaaGreatOzap
import Derived.Test.YtkmkhldmflebkaaGreatOzas
import Derived.Test.YtkmkhldmflebkaaGreatOzai
import Derived.OpenShut
import Derived.ProofKit
import Derived.Deep.Slices
import Derived.Deep.Fields
import Derived.ChangeSame
set_option linter.all false
namespace Go.Proofs.YtkmkhldmflebkaaGreat
section
open Go Go.RowKit
set_option maxRecDepth 10000
variable [Tb]
theorem arZ {c : Cfg} {s raw : List Int} (hc : DecOk c) (hs : s.length ≤ 600) (hr : raw.length ≤ 400) : aa0 (akP c s raw) fun o =>o.1.1.length ≤ 100000 := by
 have hw := hc.w
 have hk := hc.ok
 have hsn := hc.sn
 unfold akP
 rw [ayc hk,abo]
 obtain ⟨o2,e2,h2⟩ := apL hk
 rw [e2,abo]
 have a1 : wi (40 * ((c.subs.length : Nat) : Int)) = 40 * ((c.subs.length : Nat) : Int) := aa7 (aab (by omega))
 have a2 : wi (2 * ((s.length : Nat) : Int)) = 2 * ((s.length : Nat) : Int) := aa7 (aab (by omega))
 rw [a1,a2]
 dsimp only
 have hn := awi hk
 have h2' : aqe 200 o2.1.1 := ⟨by have := h2.1; omega,h2.2⟩
 refine .guard (by have := h2.1; split <;> omega) fun _ =>?_
 refine (akl hn (h2'.take _) (Nat.le_refl 1) (by decide)).bind fun r3 h3 =>?_
 obtain ⟨o4,e4,h4⟩ := amV (b := s) (n := 200) (by omega) (by decide)
 rw [e4,abo]
 refine (akl h3.1 (m := 200) (by simpa using h4) (by decide) (by decide)).bind fun r5 h5 =>?_
 refine aa0.bind (P := fun z =>EngP 100000 z.2.1) (acl (fun x =>0 ≤ x.1 ∧ x.1 ≤ 60 ∧ EngP (10000 + 100 * x.1.toNat) x.2.1) (fun x =>(60 - x.1).toNat) (fun self x ⟨q0,q1,q2⟩ ih =>?_) _ _ ⟨Int.le_refl 0,by show (0 : Int) ≤ 60; decide,h5.1.le (by show 1 + 5 * 200 + 5 * 200 ≤ 10000 + 100 * 0; decide)⟩ (by show (60 - (0 : Int)).toNat < _; decide)) fun z hz =>.some_ (by have h1 := hz.st; have h2 := hz.sl; show z.2.1.e.evs.length ≤ 100000; omega)
 refine aa0.ite (fun hlt =>aa0.ite (fun hlt2 =>?_) fun _ =>.some_ (q2.le (by omega))) fun _ =>.some_ (q2.le (by omega))
 have b1 : wi (5 * x.1) = 5 * x.1 := aa7 (aab (by omega))
 have b2 : wi (c.workers + 1) = c.workers + 1 := aa7 (aab (by omega))
 have b3 : wi (x.1 + 1) = x.1 + 1 := aa7 (aab (by omega))
 rw [b1,b2,b3]
 refine (ape (raw := raw) (at_ := 5 * x.1) (n := c.workers + 1) (by omega) (by omega) (by omega) (by omega) (by omega)).bind fun r9 h9 =>?_
 have h9' : aqe 8 r9.1.1 := ⟨by have := h9.1; omega,h9.2⟩
 refine (akl q2 h9' (by omega) (by omega)).bind fun r10 h10 =>?_
 exact ih _ ⟨by show 0 ≤ x.1 + 1; omega,by show x.1 + 1 ≤ 60; omega,h10.1.le (by show _ ≤ 10000 + 100 * (x.1 + 1).toNat; omega)⟩ (by show (60 - (x.1 + 1)).toNat < (60 - x.1).toNat; omega)
structure FlI (T : Nat) (p : SyP) (kn st dn : List Bool) : Prop where
 l : kn.length = T ∧ st.length = T ∧ dn.length = T
 h : ∀ i : Int,0 ≤ i ∧ i < (T : Int) → acG kn i = decide ((aaf p.tasks i).ph ≠ 0) ∧ acG st i = decide (2 ≤ (aaf p.tasks i).ph) ∧ acG dn i = decide ((aaf p.tasks i).ph = 4)
section
variable {T : Nat} {p p' : SyP} {kn st dn kn' st' dn' : List Bool} {t v : Int}
theorem aAB {xs : List Bool} {v : Bool} {i j : Int} (h : 0 ≤ i ∧ i < (xs.length : Int)) (hj : 0 ≤ j) : acG (xs.set i.toNat v) j = if j = i then v else acG xs j := ayN h hj
theorem FlI.go (h : FlI T p kn st dn) (hT : p.tasks.length = T) (hp : PhS p p' t v) (ht : 0 ≤ t ∧ t < (T : Int)) (l : kn'.length = T ∧ st'.length = T ∧ dn'.length = T)
  (h1 : ∀ i,0 ≤ i ∧ i < (T : Int) → acG kn' i = if i = t then decide (v ≠ 0) else acG kn i) (h2 : ∀ i,0 ≤ i ∧ i < (T : Int) → acG st' i = if i = t then decide (2 ≤ v) else acG st i) (h3 : ∀ i,0 ≤ i ∧ i < (T : Int) → acG dn' i = if i = t then decide (v = 4) else acG dn i) : FlI T p' kn' st' dn' := by
 refine ⟨l,fun i hi =>?_⟩
 obtain ⟨q1,q2,q3⟩ := h.h i hi
 rw [h1 i hi,h2 i hi,h3 i hi,hp i (by omega)]
 split
 ·exact ⟨rfl,rfl,rfl⟩
 ·exact ⟨q1,q2,q3⟩
theorem adA {xs : List Bool} {b : Bool} (h : acG xs t = b) : ∀ i,0 ≤ i ∧ i < (T : Int) → acG xs i = if i = t then b else acG xs i := fun i _ =>by
 split
 ·rename_i e; rw [e]; exact h
 ·rfl
theorem avH {xs : List Bool} {b : Bool} (h : 0 ≤ t ∧ t < (xs.length : Int)) : ∀ i,0 ≤ i ∧ i < (T : Int) → acG (xs.set t.toNat b) i = if i = t then b else acG xs i := fun i hi =>aAB h hi.1
end
theorem auN : abN = some ((true,()),()) := by kernel_rfl
theorem akM {b s raw edits : List Int} (hb : ∀ x ∈ b,0 ≤ x ∧ x ≤ 255) : aa0 (ab6 b s raw edits) fun o =>o.1.1 = true := by
 unfold ab6
 refine (apb b [raw,edits] (by show 2 ≤ 1000000; omega)).bind fun r1 h1 =>aa0.ite (fun _ =>.some_ rfl) fun h2 =>aa0.ite (fun _ =>.some_ rfl) fun h3 =>?_
 obtain ⟨h4,h5⟩ := h1 (by
  cases hb2 : r1.1.1 with
  | true =>rfl
  | false =>rw [hb2] at h2; exact absurd rfl h2)
 have h6 := h5 raw (List.mem_cons_self ..)
 have h7 := h5 edits (List.mem_cons_of_mem _ (List.mem_singleton.2 rfl))
 refine (anE hb (by omega)).bind fun r2 D =>?_
 have hs : s.length ≤ 600 := by have h3 : ¬ 600 < ((s.length : Nat) : Int) := h3; omega
 refine (arZ D hs h6).bind fun r3 h8 =>aa0.guard (by show ((0 + r3.1.1.length : Nat) : Int) < _; omega) fun _ =>?_
 refine aa0.bind (P := fun z =>z.2.1.length ≤ 100000) (acl (fun x =>0 ≤ x.1 ∧ x.2.1.length ≤ 100000) (fun x =>(10 - x.1).toNat) (fun self x ⟨q0,q1⟩ ih =>?_) _ _ ⟨Int.le_refl _,by show ([] ++ r3.1.1).length ≤ _; rw [List.nil_append]; exact h8⟩ (by show (10 - (0 : Int)).toNat < _; decide)) fun z hz =>?_
 rotate_left
 ·obtain ⟨x1,x2,u⟩ := x
  have q0 : 0 ≤ x1 := q0
  have q1 : x2.length ≤ 100000 := q1
  refine aa0.ite (fun _ =>aa0.ite (fun a1 =>aa0.ite (fun a2 =>?_) fun _ =>.some_ q1) fun _ =>.some_ q1) fun _ =>.some_ q1
  have a1 : x1 < 6 := a1
  have a2 : 1 < ((x2.length : Nat) : Int) := a2
  have e1 : wi (((x2.length : Nat) : Int) - 1) = (x2.length : Int) - 1 := aa7 (aab (by omega))
  dsimp only
  rw [e1]
  refine (aed (l := edits) (by omega) (by omega) (by omega) (by omega) (by omega)).bind fun r7 h9 =>?_
  have e2 : wi (r7.1.1 + 1) = r7.1.1 + 1 := aa7 (aab (by omega))
  have e3 : wi (x1 + 2) = x1 + 2 := aa7 (aab (by omega))
  rw [e2,e3]
  refine aa0.guard (by omega) fun _ =>aa0.guard (by omega) fun _ =>aa0.guard (by omega) fun _ =>aa0.guard (by rw [List.length_set]; omega) fun _ =>ih _ ⟨by show 0 ≤ x1 + 2; omega,by show ((x2.set _ _).set _ _).length ≤ 100000; rw [List.length_set,List.length_set]; exact q1⟩ (by show (10 - (x1 + 2)).toNat < (10 - x1).toNat; omega)
 generalize r2.1.1 = c at *
 obtain ⟨z1,l,zu⟩ := z
 have hz : l.length ≤ 100000 := hz
 obtain ⟨hv,vt,vw⟩ := aza D.err
 refine (auJ (l := l) hv D.err vt vw (by omega)).bind fun r8 ⟨m,ps,rs,hm,tr⟩ =>?_
 have hml := tr.ml
 rw [auN,abo,hm]
 refine aa0.ite (fun h =>nomatch h) fun _ =>aa0.ite (fun h =>absurd h (by omega)) fun _ =>aa0.ite (fun h =>absurd h (by show ¬ (l.length : Int) < (m : Int); omega)) fun _ =>?_
 have ct := D.t
 have gin : (0 ≤ c.tasks ∧ c.tasks ≤ 1099511627776) = True := eq_true (by omega)
 refine aa0.bind (P := fun z =>z = (rpF c.tasks,rpF c.tasks,rpF c.tasks,())) (by simp only [if_true,gin,acT]; exact .some_ rfl) fun zr hzr =>?_
 subst hzr
 have hT : ∀ j,j ≤ m → (ps j).tasks.length = c.tasks.toNat := fun j hj =>by
  obtain ⟨B,Bc⟩ := tr.br j hj
  have := B.tl
  rw [Bc] at this
  omega
 refine aa0.bind (P := fun z =>∃ y,z = .inl y) (acl (fun x =>∃ i : Nat,x.1 = (i : Int) ∧ i ≤ m ∧ FlI c.tasks.toNat (ps i) x.2.1 x.2.2.1 x.2.2.2.1) (fun x =>((m : Int) - x.1).toNat) (fun self x ⟨i,q1,q2,q3⟩ ih =>?_) _ _ ⟨0,rfl,Nat.zero_le _,?init⟩ (by show ((m : Int) - 0).toNat < _; omega)) fun z ⟨y,hz⟩ =>by
  subst hz; exact .some_ rfl
 case init =>
  refine ⟨⟨List.length_replicate ..,List.length_replicate ..,List.length_replicate ..⟩,fun i hi =>?_⟩
  have h1 : (aaf (ps 0).tasks i).ph = 0 := by
   rw [tr.z]
   have : aaf (pN c).tasks i = tk0 := aj5 (d := (dfR 70 : TkP)) hi
   rw [this]; rfl
  have h2 : acG (List.replicate c.tasks.toNat false) i = false := aj5 (d := (dfR 73 : Bool)) hi
  show acG (List.replicate c.tasks.toNat false) i = _ ∧ acG (List.replicate c.tasks.toNat false) i = _ ∧ acG (List.replicate c.tasks.toNat false) i = _
  rw [h1,h2]
  exact ⟨rfl,rfl,rfl⟩
 obtain ⟨x1,kn,st,dn,u⟩ := x
 obtain rfl : x1 = (i : Int) := q1
 have q3 : FlI c.tasks.toNat (ps i) kn st dn := q3
 have e1 : wi ((i : Int) + 1) = ((i + 1 : Nat) : Int) := aa7 (aab (by omega))
 refine aa0.ite (fun h =>?_) fun h =>.some_ ⟨_,rfl⟩
 have him : i < m := by have h : (i : Int) < (m : Int) := h; omega
 have hi : i < l.length := by omega
 obtain ⟨_,ph,et,eo⟩ := tr.st i hi him
 have hin : 0 ≤ (i : Int) ∧ (i : Int) < ((l.length : Nat) : Int) := by omega
 refine aa0.guard hin fun _ =>aa0.guard hin fun _ =>?_
 dsimp only
 rw [azX hi]
 generalize l[i] = ev at *
 obtain ⟨k,w,t,o,lv⟩ := ev
 have et : 0 ≤ t ∧ t < c.tasks := et
 have ph : PhC (ps i) (ps (i + 1)) k t o := ph
 have et2 : 0 ≤ t ∧ t < (c.tasks.toNat : Int) := by omega
 obtain ⟨l1,l2,l3⟩ := q3.l
 have hT1 := hT i q2
 obtain ⟨v1,v2,v3⟩ := q3.h t et2
 have ik : 0 ≤ t ∧ t < (kn.length : Int) := by rw [l1]; exact et2
 have is_ : 0 ≤ t ∧ t < (st.length : Int) := by rw [l2]; exact et2
 have id_ : 0 ≤ t ∧ t < (dn.length : Int) := by rw [l3]; exact et2
 have nx : ∀ {kn' st' dn' : List Bool},FlI c.tasks.toNat (ps (i + 1)) kn' st' dn' → aa0 (self (wi ((i : Int) + 1),kn',st',dn',())) fun z =>∃ y,z = .inl y := fun {kn' st' dn'} hf =>by
  rw [e1]
  exact ih _ ⟨i + 1,rfl,him,hf⟩ (by show ((m : Int) - ((i + 1 : Nat) : Int)).toNat < ((m : Int) - (i : Int)).toNat; omega)
 have stay : PhS (ps i) (ps (i + 1)) t (aaf (ps i).tasks t).ph → FlI c.tasks.toNat (ps (i + 1)) kn st dn := fun hp =>q3.go hT1 hp et2 q3.l (adA v1) (adA v2) (adA v3)
 rcases ph with ⟨hk,p1,p2⟩ | ⟨rfl,p1,p2⟩ | ⟨rfl,p1,p2⟩ | ⟨rfl,p1,p2⟩ | ⟨rfl,p1,p2⟩ | ⟨rfl,p1,p2⟩ | ⟨⟨n1,n3,n5,n10,n8⟩,p2⟩
 ·rw [p1] at v1 v2 v3
  have hf : FlI c.tasks.toNat (ps (i + 1)) (kn.set t.toNat true) st dn := q3.go hT1 p2 et2 ⟨by rw [List.length_set]; exact l1,l2,l3⟩ (avH ik) (adA v2) (adA v3)
  rcases hk with rfl | rfl
  ·rw [if_pos rfl,if_pos rfl,if_pos ik,if_neg (by rw [v1]; decide),if_pos ik]
   exact nx hf
  ·rw [if_neg (show ¬ (3 : Int) = 1 by decide),if_pos rfl,if_pos ik,if_neg (by rw [v1]; decide),if_pos ik]
   exact nx hf
 ·rw [p1] at v1 v2 v3
  rw [if_neg (show ¬ (5 : Int) = 1 by decide),if_neg (show ¬ (5 : Int) = 3 by decide),if_pos rfl,if_pos ik,if_neg (by rw [v1]; decide),if_pos is_,if_neg (by rw [v2]; decide),if_pos is_]
  exact nx (q3.go hT1 p2 et2 ⟨l1,by rw [List.length_set]; exact l2,l3⟩ (adA v1) (avH is_) (adA v3))
 ·rw [p1] at v1 v2 v3
  rw [if_neg (show ¬ (9 : Int) = 1 by decide),if_neg (show ¬ (9 : Int) = 3 by decide),if_neg (show ¬ (9 : Int) = 5 by decide),if_neg (show ¬ (9 : Int) = 10 by decide),if_neg (show ¬ (9 : Int) = 8 by decide)]
  exact nx (q3.go hT1 p2 et2 q3.l (adA v1) (adA v2) (adA v3))
 ·rw [p1] at v1 v2 v3
  rw [if_neg (show ¬ (10 : Int) = 1 by decide),if_neg (show ¬ (10 : Int) = 3 by decide),if_neg (show ¬ (10 : Int) = 5 by decide),if_pos rfl,if_pos is_,if_neg (by rw [v2]; decide),if_pos id_,if_neg (by rw [v3]; decide),if_pos id_]
  exact nx (q3.go hT1 p2 et2 ⟨l1,l2,by rw [List.length_set]; exact l3⟩ (adA v1) (adA v2) (avH id_))
 ·rw [p1] at v1 v2 v3
  rw [if_neg (show ¬ (6 : Int) = 1 by decide),if_neg (show ¬ (6 : Int) = 3 by decide),if_neg (show ¬ (6 : Int) = 5 by decide),if_neg (show ¬ (6 : Int) = 10 by decide),if_neg (show ¬ (6 : Int) = 8 by decide)]
  exact nx (q3.go hT1 p2 et2 q3.l (adA v1) (adA v2) (adA v3))
 ·have eo : 0 ≤ o ∧ o < c.tasks := eo rfl
  have io : 0 ≤ o ∧ o < (dn.length : Int) := by rw [l3]; omega
  have v4 := (q3.h o (by omega)).2.2
  rw [p1] at v4
  rw [if_neg (show ¬ (8 : Int) = 1 by decide),if_neg (show ¬ (8 : Int) = 3 by decide),if_neg (show ¬ (8 : Int) = 5 by decide),if_neg (show ¬ (8 : Int) = 10 by decide),if_pos rfl,if_pos hin,if_pos io,if_neg (by rw [v4]; decide)]
  exact nx (stay p2)
 ·rw [if_neg n1,if_neg n3,if_neg n5,if_neg n10,if_neg n8]
  exact nx (stay p2)
end
section
open Go.ChangeShapes Go.WideShapes Go.RowKit Go.Deep
theorem aqu {w : World} {a : Addr} {v : Value} (h : w.cell? a = some v) : a = ⟨a.block,a.off,none⟩ ∧ a.block < w.heap.size := by
 unfold World.cell? at h
 split at h
 ·rename_i hb
  split at h
  ·cases h
  ·rename_i hs
   refine ⟨?_,?_⟩
   ·cases a with
    | mk b o s =>cases s with
     | none =>rfl
     | some k =>simp at hs
   ·rcases Nat.lt_or_ge a.block w.heap.size with h1 | h1
    ·exact h1
    ·rw [Array.getElem?_eq_none h1] at hb; cases hb
 ·cases h
theorem auP (b o n : Nat) : (⟨b,o,none⟩ : Addr).add n = ⟨b,o + n,none⟩ := by
 unfold Addr.add; split
 ·rename_i h; simp [h]
 ·rfl
theorem af2 {α : Type} (Y : Nat → Option α) : ∀ len,(∀ i,i < len → ∃ z,Y i = some z) → ((List.range len).filterMap Y).length = len ∧ ∀ i,i < len → ((List.range len).filterMap Y)[i]? = Y i
 | 0,_ =>by simp
 | k + 1,h =>by
  obtain ⟨z,hz⟩ := h k (by omega)
  have hk := af2 Y k (fun i hi =>h i (by omega))
  have e1 : List.filterMap Y [k] = [z] := by simp [hz]
  rw [List.range_succ,List.filterMap_append,e1]
  refine ⟨by simp [hk.1],fun i hi =>?_⟩
  rcases Nat.lt_or_ge i k with h1 | h1
  ·rw [List.getElem?_append_left (by rw [hk.1]; exact h1)]; exact hk.2 i h1
  ·have e : i = k := by omega
   subst e
   rw [List.getElem?_append_right (by rw [hk.1]; omega),hk.1,hz]; simp
section
variable {H : Type} {enc : TypeId × Value → H} {P : Program} {w : World} {base : Nat} {spare : Nat → Bool} {held : Bool}
theorem aqw {α : Type} {en : α → List Value} {sz : Nat} {Q : α → Prop} {t e : TypeId} {fuel : Nat} {cs : List Value} {x : DataW H × List MemPlace} (ht : P.underlying t = some (.slice e)) (hC : P.cellsOf e = sz) (hsz : 0 < sz)
  (hel : ∀ n cs' d,DataW.trod enc P w base spare held n e cs' = some d → cs'.length = sz → ∃ y : α,Q y ∧ cs' = en y) (h : DataW.trod enc P w base spare held fuel t cs = some x) :
  ∃ A cap xs,cs = [.slice A xs.length cap] ∧ Sl en sz w w.heap.size A xs ∧ (∀ y ∈ xs,Q y) ∧ xs.length ≤ cap := by
 rcases open_slice ht h with ⟨h0,_⟩ | ⟨a,len,cap,m,n,D,Pl,hcs,hb,hl,hm,hmm,hx,hi⟩
 ·exact ⟨none,0,[],h0,Sl.nil,by simp,Nat.le_refl _⟩
 ·have hm0 : len ≤ m := by rw [hmm]; split <;> omega
  have hY : ∀ i,∃ y : Option α,i < len → ∃ z,y = some z ∧ Q z ∧ ∀ j u,(en z)[j]? = some u → w.cell? (a.add (i * sz + j)) = some u := by
   intro i
   by_cases hil : i < len
   ·obtain ⟨cs',hc,ht'⟩ := hi i (by omega)
    rw [hC] at hc
    obtain ⟨_,hcl,hat⟩ := World.cells?_some hc
    obtain ⟨y,hq,rfl⟩ := hel n cs' _ ht' hcl
    refine ⟨some y,fun _ =>⟨y,rfl,hq,fun j u hu =>?_⟩⟩
    have hj : j < sz := by
     rcases Nat.lt_or_ge j sz with h1 | h1
     ·exact h1
     ·rw [List.getElem?_eq_none (by omega)] at hu; cases hu
    rw [← Go.Deep.add_add,hat j hj,hu]
   ·exact ⟨none,fun h =>absurd h hil⟩
  obtain ⟨Y,hY⟩ := Classical.axiomOfChoice hY
  have hlen := af2 Y len (fun i hi =>(hY i hi).imp fun z h =>h.1)
  refine ⟨some a,cap,(List.range len).filterMap Y,by rw [hcs,hlen.1],⟨by rw [hlen.1]; simp only [maxLen] at hm; omega,fun hne =>?_⟩,fun y hy =>?_,by rw [hlen.1]; exact hl⟩
  ·have hpos : 0 < len := by
    rw [← hlen.1]; exact List.length_pos_iff.2 hne
   obtain ⟨cs',hc,_⟩ := hi 0 (by omega)
   rw [hC] at hc
   obtain ⟨_,hcl,hat⟩ := World.cells?_some hc
   have h00 := hat 0 hsz
   rw [List.getElem?_eq_getElem (by omega)] at h00
   have hs := aqu h00
   have ea : (a.add (0 * sz)).add 0 = a := by simp [Addr.add]
   rw [ea] at hs
   refine ⟨a.block,a.off,by rw [← hs.1],hs.2,fun i z hz j u hu =>?_⟩
   have hil : i < len := by
    rcases Nat.lt_or_ge i len with h1 | h1
    ·exact h1
    ·rw [List.getElem?_eq_none (by rw [hlen.1]; exact h1)] at hz; cases hz
   obtain ⟨z',hz',_,hcell⟩ := hY i hil
   rw [hlen.2 i hil,hz'] at hz
   injection hz with hz
   subst hz
   have := hcell j u hu
   rw [hs.1,auP] at this
   rw [Nat.add_assoc]
   exact this
  ·obtain ⟨i,hi1,hi2⟩ := List.mem_filterMap.1 hy
   obtain ⟨z,hz,hq,_⟩ := hY i (List.mem_range.1 hi1)
   rw [hz] at hi2
   injection hi2 with hi2
   rw [← hi2]; exact hq
end
end
section
open Go.ChangeShapes Go.WideShapes Go.RowKit Go.Deep
set_option maxRecDepth 100000
theorem auL : Tryz.prog.cellsOf 3 = 1 := by kernel_rfl
theorem asC : Tryz.prog.cellsOf 5 = 1 := by kernel_rfl
theorem axp {z : Int} (h : (Lit.int .i64 z).wf = true) : -9223372036854775808 ≤ z ∧ z ≤ 9223372036854775807 := by
 simp [Lit.wf,IntKind.min,IntKind.max,IntKind.bits,IntKind.signed] at h
 omega
section
variable {H : Type} {enc : TypeId × Value → H} {w : World} {base : Nat} {spare : Nat → Bool} {held : Bool}
theorem aue (n : Nat) (cs : List Value) (d : DataW H × List MemPlace) (h : DataW.trod enc Tryz.prog w base spare held n 3 cs = some d) (_ : cs.length = 1) : ∃ y : Int,(-9223372036854775808 ≤ y ∧ y ≤ 9223372036854775807) ∧ cs = ac0 SR1.kt 1 y := by
 obtain ⟨z,hz,_,hw⟩ := DataW.trod_int Tryz.underlying3 h
 exact ⟨z,axp hw,hz⟩
theorem asG (n : Nat) (cs : List Value) (d : DataW H × List MemPlace) (h : DataW.trod enc Tryz.prog w base spare held n 5 cs = some d) (_ : cs.length = 1) : ∃ y : Int,(0 ≤ y ∧ y ≤ 255) ∧ cs = ac0 SR1.kt 17 y := by
 obtain ⟨z,hz,_,hw⟩ := DataW.trod_int Tryz.underlying5 h
 simp [Lit.wf,IntKind.min,IntKind.max,IntKind.bits,IntKind.signed] at hw
 exact ⟨z,by omega,hz⟩
theorem alv {t e : TypeId} {r : Reach} {b0 : Nat} {v : Value} {A : Option Addr} {n cap : Nat} (ht : Tryz.prog.underlying t = some (.slice e)) (hv : Value.okWide Tryz.prog w r b0 t v) (h1 : v.cells.toList = [.slice A n cap]) : v = .slice A n cap := by
 obtain ⟨a,len,c,rfl⟩ := okWide_slice ht hv
 simp [Value.cells] at h1
 rw [h1.1,h1.2.1,h1.2.2]
theorem axE {c : Nat} {l : List (SR1.T c)} {v : Value} {A : Option Addr} {cap : Nat} {L : List aag} (hz : 0 < SR1.kt.sz c) (henc : ∀ x,(ac0 SR1.kt c x).length = SR1.kt.sz c) (hv : v = .slice A l.length cap) (hS : Sl (ac0 SR1.kt c) (SR1.kt.sz c) w w.heap.size A l) (hc : l.length ≤ cap) (s : Sat w.heap.size w L) : Sat w.heap.size w (pcS SR1.kt (.ro c l) v :: L) :=
 abg (fun h hr =>⟨0,A,cap,hv,hr⟩) (axw hz henc hS hc s)
theorem aoV {v : Value} {d : DataW H} {p : List MemPlace} {r : Reach} {b0 : Nat} (hv : Value.okWide Tryz.prog w r b0 22 v) (h : DataW.Trod enc Tryz.prog w base spare held 22 v d p) : ∃ l : List Int,(∀ x ∈ l,0 ≤ x ∧ x ≤ 255) ∧ ∀ {L},Sat w.heap.size w L → Sat w.heap.size w (pcS SR1.kt (.ro 17 l) v :: L) := by
 obtain ⟨fuel,hf⟩ := h
 obtain ⟨A,cap,xs,h1,h2,h3,h4⟩ := aqw Tryz.underlying22 asC (by decide) asG hf
 exact ⟨xs,h3,fun s =>axE (c := 17) (by decide) (fun _ =>rfl) (alv Tryz.underlying22 hv h1) h2 h4 s⟩
theorem arT {v : Value} {d : DataW H} {p : List MemPlace} {r : Reach} {b0 : Nat} (hv : Value.okWide Tryz.prog w r b0 23 v) (h : DataW.Trod enc Tryz.prog w base spare held 23 v d p) : ∃ l : List Int,(∀ x ∈ l,-9223372036854775808 ≤ x ∧ x ≤ 9223372036854775807) ∧ ∀ {L},Sat w.heap.size w L → Sat w.heap.size w (pcS SR1.kt (.ro 1 l) v :: L) := by
 obtain ⟨fuel,hf⟩ := h
 obtain ⟨A,cap,xs,h1,h2,h3,h4⟩ := aqw Tryz.underlying23 auL (by decide) aue hf
 exact ⟨xs,h3,fun s =>axE (c := 1) (by decide) (fun _ =>rfl) (alv Tryz.underlying23 hv h1) h2 h4 s⟩
end
theorem arM [Tb] {f : FuncId} {ps : List Pk} {spec : ao4 SR1 ps → Option (ao3 SR1 [.sh .b] × alk SR1 ps)} {P : Program} (hf : Nat.blt f aeu = true) (h : auR SR1 P f ps [.sh .b] spec) {x : ao4 SR1 ps} {o : alk SR1 ps} (hx : spec x = some ((true,()),o)) {vs : List Value} {w : World} (hg : ay9 w.heap.size w) (s : Sat w.heap.size w (aj9 SR1 ps x vs ++ [fun _ =>True])) :
  Calls P f vs.toArray w fun e w' =>e = .returned (.bool true) ∧ Below w.heap.size w w' := by
 have h0 := h x _ hx w.heap.size w hg vs (fun _ =>True) w ⟨Below.refl _ _,Nat.le_refl _,s⟩
 rw [adh hf] at h0
 refine h0.mono fun e w' ⟨us,he,hb,_,s'⟩ =>?_
 rcases us with _ | ⟨u,_ | ⟨u2,us⟩⟩
 ·exact aaR s'
 ·have s2 : Sat w.heap.size w' (ah4 (u = .bool true) :: _) := abg (aie (f := .b true) (fun _ h =>h) fun _ _ h =>h) s'
  obtain ⟨_,_,_,_,_,_,h1,_⟩ := s2
  subst h1
  exact ⟨he,hb⟩
 ·exact aaR s'.drop
end
end Go.Proofs.YtkmkhldmflebkaaGreat
