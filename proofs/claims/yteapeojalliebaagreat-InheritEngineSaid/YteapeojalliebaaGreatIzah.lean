/- Evaluation by itself: calls by contracts. No program occurs here. Evaluation by itself: contracts in a row. No program occurs here. Evaluation by itself: methods of machines behind interfaces. No program occurs here. The reference's and the program's data as kinds. No program occurs here. The seat's kinds. A row that a call has made. No program occurs here. Evaluation by itself: slices that came in. No program occurs here. Contracts proved in another style,in the evaluator's words. No program occurs here. A configuration that came in. From the readings of the arguments to our words. From the readings of the arguments to our words: bytes,ints. The table that words.Low looks at lies in block 0 of every world that fits: 64 bytes,whatever they are. What is needed of a configuration's types. -/
import Derived.Test.YteapeojalliebaaGreatIzag
import Derived.Test.YteapeojalliebaaGreatIzae
import Derived.Test.YteapeojalliebaaGreatIzac
import Derived.Test.YteapeojalliebaaGreatProg
import Derived.Test.YteapeojalliebaaGreatChecked
import Derived.Laws.AppendOwn
import Derived.OpenShut
import Derived.ProofKit
import Derived.Deep.Slices
import Derived.Deep.Fields
import Derived.ChangeSame
import Derived.HandedShaped
import Derived.Test.YteapeojalliebaaGreatRows
import Derived.Test.YteapeojalliebaaGreatIzaa
set_option linter.all false
namespace Go.Proofs.YteapeojalliebaaGreat
section
open Go Go.RowKit
inductive RemC (T:Nat→Type) (M:Type) (c:Nat) where
 | cells (id:Nat) (pre post:List (Fd T M))
 | elt (j:Nat) (i:Int) (xs:List (T c))
section
variable (S:Shp)
def aCb (H:S.kt.H) (c:Nat) (v:V):Option (S.T c×S.kt.H×RemC S.T S.M c) :=
 match v with
 | .ptr id o =>match get H id with
  | some (.cells fs) =>match Nat.ble (o+S.kt.sz c) fs.length with
   | true =>match av4 S.kt (asm S.kt) (del H id) (S.kt.vw c (S.kt.df c)) ((fs.drop o).take (S.kt.sz c)) with
    | some (l,H1) =>match S.kt.bk c l with
     | some x =>some (x,H1,.cells id (fs.take o) (fs.drop (o+S.kt.sz c)))
     | none =>none
    | none =>none
   | false =>none
  | some (.elt j i sz) =>match Nat.beq o 0 && Nat.beq sz (S.kt.sz c) with
   | true =>match get H j with
    | some (.row c' xs) =>match aov c' c xs with
     | some ys =>some (atL (S.df c) ys i,del H j,.elt j i ys)
     | none =>none
    | _ =>none
   | false =>none
  | _ =>none
 | _ =>none
def az2 (c:Nat) (x:S.T c) (H:S.kt.H):RemC S.T S.M c→S.kt.H
 | .cells id pre post =>(id,.cells (pre++((S.kt.vw c x).map .f++post)))::H
 | .elt j i xs =>(j,.row c (xs.set i.toNat x))::H
def azi (ρ:Env) (c:Nat):RemC S.T S.M c→aad
 | .cells id pre post =>fun h =>∃ us ws:List Value,us.length=pre.length∧ab1 (pts (ρ.p id).1 (ρ.p id).2 us::pts (ρ.p id).1 ((ρ.p id).2+pre.length+S.kt.sz c) ws::(fsS (fS S.kt ρ) pre us++fsS (fS S.kt ρ) post ws)) h
 | .elt j i xs =>fun h =>∃ (b o:Nat) (vss:List (List Value)) (spare:List Value) (N:List aad),(0≤i∧i<(xs.length:Int))∧((ρ.s j).a=some ⟨b,o,none⟩∧(ρ.s j).n=xs.length)∧(vss.length=xs.length∧∀ v∈vss,v.length=S.kt.sz c) ∧
   (xs.length≤(ρ.s j).c∧(ρ.s j).c≤maxLen∧spare.length=((ρ.s j).c-xs.length)*S.kt.sz c)∧(∀ x' vs',(acB S.kt (pcS S.kt) c (xs.set i.toNat x') (vss.set i.toNat vs')).Perm (fsS (pcS S.kt) (S.kt.vw c x') vs'++N)) ∧
   ab1 (pts b o (vss.flatten.take (i.toNat*S.kt.sz c))::pts b (o+i.toNat*S.kt.sz c+S.kt.sz c) (vss.flatten.drop (i.toNat*S.kt.sz c+S.kt.sz c)++spare)::N) h
def adR (ρ:Env) (c:Nat):RemC S.T S.M c→Nat×Nat
 | .cells id pre _ =>((ρ.p id).1,(ρ.p id).2+pre.length)
 | .elt j i _ =>match (ρ.s j).a with
  | some a =>(a.block,a.off+i.toNat*S.kt.sz c)
  | none =>(0,0)
end
section
variable {S:Shp} {B:Nat} {w:World} {ρ:Env}
theorem anT {α:Type} {A:α→aad} {L:List aad} (s:Sat B w ((fun h =>∃ x,A x h)::L)):∃ x,Sat B w (A x::L):=by
 obtain ⟨h,Hh,k1,k2,a,e,⟨x,hx⟩,hL⟩:=s
 exact ⟨x,h,Hh,k1,k2,a,e,hx,hL⟩
theorem aCU {N L:List aad} (s:Sat B w (ab1 N::L)):Sat B w (N++L):=by
 obtain ⟨h,Hh,k1,k2,a,e,hx,hL⟩:=s
 exact ⟨h,Hh,aan.2 ⟨k1,k2,a,e,hx,hL⟩⟩
theorem ale {N L:List aad} {A:aad} (f:∀ h,ab1 N h→A h) (s:Sat B w (N++L)):Sat B w (A::L):=by
 obtain ⟨h,Hh,hs⟩:=s
 obtain ⟨k1,k2,a,e,g1,g2⟩:=aan.1 hs
 exact ⟨h,Hh,k1,k2,a,e,f _ g1,g2⟩
theorem aCa {H H1:S.kt.H} {c:Nat} {v:V} {x:S.T c} {r:RemC S.T S.M c} (h:aCb S H c v=some (x,H1,r)) {X:List aad} (s:Sat B w (dH S.kt ρ H++X)) :
  aav ρ v=.pointer (some ⟨(adR S ρ c r).1,(adR S ρ c r).2,none⟩)∧Sat B w (obS S.kt c x (adR S ρ c r)::azi S ρ c r::(dH S.kt ρ H1++X)):=by
 unfold aCb at h
 split at h
 ·rename_i id o
  split at h
  ·rename_i fs hg
   split at h
   ·rename_i hB
    split at h
    ·rename_i l H2 hl
     split at h
     ·rename_i y hy
      cases h
      have hle:=Nat.le_of_ble_eq_true hB
      obtain ⟨vs,s1⟩:=ah4 (s.imp (aaQ (ρ:=ρ) hg))
      have hlen:=akh s1
      have hol:(fs.take o).length=o:=by simp; omega
      refine ⟨by simp [aav,adR,hol],?_⟩
      -- three parts
      have e1:fsS (fS S.kt ρ) fs vs=fsS (fS S.kt ρ) (fs.take o) (vs.take o)++(fsS (fS S.kt ρ) ((fs.drop o).take (S.kt.sz c)) ((vs.drop o).take (S.kt.sz c))++fsS (fS S.kt ρ) (fs.drop (o+S.kt.sz c)) (vs.drop (o+S.kt.sz c))):=by
       conv =>lhs; rw [← List.take_append_drop o fs,← List.take_append_drop o vs,ajq (by simp [hlen])]
       conv =>lhs; arg 2; rw [← List.take_append_drop (S.kt.sz c) (fs.drop o),← List.take_append_drop (S.kt.sz c) (vs.drop o),ajq (by simp [hlen]),List.drop_drop,List.drop_drop]
      have e2:vs=vs.take o++((vs.drop o).take (S.kt.sz c)++vs.drop (o+S.kt.sz c)):=by
       rw [← List.drop_drop,List.take_append_drop,List.take_append_drop]
      have s2:Sat B w (pts (ρ.p id).1 (ρ.p id).2 (vs.take o++((vs.drop o).take (S.kt.sz c)++vs.drop (o+S.kt.sz c)))::(fsS (fS S.kt ρ) fs vs++(dH S.kt ρ (del H id)++X))):=by rw [← e2]; exact s1
      have s3:=s2.imp an2
      have hvo:(vs.take o).length=o:=by simp; omega
      rw [hvo] at s3
      have s4:Sat B w (pts (ρ.p id).1 ((ρ.p id).2+o) ((vs.drop o).take (S.kt.sz c)++vs.drop (o+S.kt.sz c))::pts (ρ.p id).1 (ρ.p id).2 (vs.take o)::(fsS (fS S.kt ρ) fs vs++(dH S.kt ρ (del H id)++X))):=s3.perm (List.Perm.swap ..)
      have s5:=s4.imp an2
      have hvm:((vs.drop o).take (S.kt.sz c)).length=S.kt.sz c:=by rw [List.length_take,List.length_drop]; omega
      rw [hvm,e1] at s5
      -- the middle is put together
      have s6:Sat B w (fsS (fS S.kt ρ) ((fs.drop o).take (S.kt.sz c)) ((vs.drop o).take (S.kt.sz c))++(dH S.kt ρ (del H id)++(pts (ρ.p id).1 ((ρ.p id).2+o) ((vs.drop o).take (S.kt.sz c))::((pts (ρ.p id).1 (ρ.p id).2 (vs.take o)::pts (ρ.p id).1 ((ρ.p id).2+o+S.kt.sz c) (vs.drop (o+S.kt.sz c))::(fsS (fS S.kt ρ) (fs.take o) (vs.take o)++fsS (fS S.kt ρ) (fs.drop (o+S.kt.sz c)) (vs.drop (o+S.kt.sz c))))++X)))):=by
       refine s5.perm ?_
       refine List.Perm.symm ?_
       refine (alE _ _ _ _).trans (List.Perm.cons _ ?_)
       simp only [List.cons_append]
       refine (alE _ _ _ _).trans ?_
       refine List.Perm.trans (List.Perm.cons _ (alE _ _ _ _)) ?_
       refine (List.Perm.swap ..).trans (List.Perm.cons _ (List.Perm.cons _ ?_))
       simp only [List.append_assoc]
       -- mid ++ (H ++ (pre ++ (post ++ X)))  ~  pre ++ (mid ++ (post ++ (H ++ X)))
       refine (List.Perm.append_left _ (adq _ _ _)).trans ?_
       refine (adq _ _ _).trans (List.Perm.append_left _ (List.Perm.append_left _ (adq _ _ _)))
      have s7:=ajF arM hl s6
      have s8:Sat B w ((pts (ρ.p id).1 ((ρ.p id).2+o) ((vs.drop o).take (S.kt.sz c))::fsS (pcS S.kt) l ((vs.drop o).take (S.kt.sz c)))++((pts (ρ.p id).1 (ρ.p id).2 (vs.take o)::pts (ρ.p id).1 ((ρ.p id).2+o+S.kt.sz c) (vs.drop (o+S.kt.sz c))::(fsS (fS S.kt ρ) (fs.take o) (vs.take o)++fsS (fS S.kt ρ) (fs.drop (o+S.kt.sz c)) (vs.drop (o+S.kt.sz c))))++(dH S.kt ρ H1++X))):=by
       refine s7.perm ?_
       refine (alE _ _ _ _).trans ?_
       simp only [List.cons_append]
       refine List.Perm.cons _ (List.Perm.append_left _ ?_)
       exact adq (dH S.kt ρ H1) (pts (ρ.p id).1 (ρ.p id).2 (vs.take o)::pts (ρ.p id).1 ((ρ.p id).2+o+S.kt.sz c) (vs.drop (o+S.kt.sz c))::(fsS (fS S.kt ρ) (fs.take o) (vs.take o)++fsS (fS S.kt ρ) (fs.drop (o+S.kt.sz c)) (vs.drop (o+S.kt.sz c)))) X
      refine ale (fun k hk =>?_) (?_:Sat B w ((pts (ρ.p id).1 ((ρ.p id).2+o) ((vs.drop o).take (S.kt.sz c))::fsS (pcS S.kt) l ((vs.drop o).take (S.kt.sz c)))++(azi S ρ c (.cells id (fs.take o) (fs.drop (o+S.kt.sz c)))::(dH S.kt ρ H1++X))))
      ·refine aog.2 ⟨(vs.drop o).take (S.kt.sz c),?_⟩
       rw [S.kt.bk_ok _ _ _ hy]
       simpa [adR,hol] using hk
      ·have s9:=s8.perm List.perm_append_comm
       rw [List.append_assoc] at s9
       have s10:=ale (A:=azi S ρ c (.cells id (fs.take o) (fs.drop (o+S.kt.sz c)))) (fun k hk =>⟨vs.take o,vs.drop (o+S.kt.sz c),by rw [hvo,hol],by rw [hol]; exact hk⟩) s9
       refine s10.perm ?_
       refine List.Perm.symm ?_
       refine (List.perm_middle).trans (List.Perm.cons _ List.perm_append_comm)
     ·cases h
    ·cases h
   ·cases h
  ·rename_i j i sz hel
   split at h
   ·rename_i hB
    split at h
    ·rename_i c' xs hg
     split at h
     ·rename_i ys hy
      cases h
      obtain ⟨rfl,rfl⟩:=ahr hy
      simp only [Bool.and_eq_true] at hB
      obtain rfl:=Nat.eq_of_beq_eq_true hB.1
      obtain rfl:=Nat.eq_of_beq_eq_true hB.2
      obtain ⟨hi,b,o2,hA,hp⟩:=avx s hel
      obtain ⟨hn,vss,h2,h3,s2⟩:=alO s hg
      rw [hn] at hi
      have hxi:=aff (d:=S.df c') hi
      have hlt:i.toNat<vss.length:=by omega
      have hvs:vss[i.toNat]?=some vss[i.toNat]:=List.getElem?_eq_getElem hlt
      have hvl:=h3 _ (List.getElem_mem hlt)
      refine ⟨by simp [aav,adR,hA,hp],?_⟩
      obtain ⟨hh,Hh,k1,k2,a,e,⟨r1,r2,r3,r4⟩,hL⟩:=s2
      rcases r4 with ⟨r4,_⟩ | ⟨b',o',spare,hA',hsp,hpts⟩
      ·rw [r4] at hA; cases hA
      ·rw [hA] at hA'
       cases hA'
       obtain ⟨N,p1,p2⟩:=aiG (pc:=pcS S.kt) hxi hvs
       have hfl:=aew h3
       have hlow:i.toNat*S.kt.sz c'+S.kt.sz c'≤vss.flatten.length:=by
        rw [hfl]
        have:(i.toNat+1)*S.kt.sz c'≤vss.length*S.kt.sz c':=Nat.mul_le_mul_right _ hlt
        rw [Nat.add_mul] at this; omega
       have hmid:(vss.flatten.drop (i.toNat*S.kt.sz c')).take (S.kt.sz c')=vss[i.toNat]:=by
        apply List.ext_getElem?
        intro q
        by_cases hq:q<S.kt.sz c'
        ·rw [List.getElem?_take_of_lt hq,List.getElem?_drop]
         rw [alt h3 hvs (v:=(vss[i.toNat])[q]'(by omega)) (List.getElem?_eq_getElem _),List.getElem?_eq_getElem]
        ·rw [List.getElem?_eq_none (by rw [List.length_take,List.length_drop]; omega),List.getElem?_eq_none (by omega)]
       have e2:vss.flatten++spare=vss.flatten.take (i.toNat*S.kt.sz c')++(vss[i.toNat]++(vss.flatten.drop (i.toNat*S.kt.sz c'+S.kt.sz c')++spare)):=by
        rw [← hmid,← List.drop_drop,← List.append_assoc (List.take _ _),← List.append_assoc,List.append_assoc (List.take (i.toNat*S.kt.sz c') _),List.take_append_drop,List.take_append_drop]
       have t1:Sat B w (pts b o2 (vss.flatten.take (i.toNat*S.kt.sz c')++(vss[i.toNat]++(vss.flatten.drop (i.toNat*S.kt.sz c'+S.kt.sz c')++spare)))::(acB S.kt (pcS S.kt) c' ys vss++(dH S.kt ρ (del H j)++X))):=by
        rw [← e2]; exact ⟨hh,Hh,k1,k2,a,e,hpts,hL⟩
       have t2:=t1.imp an2
       have htl:(vss.flatten.take (i.toNat*S.kt.sz c')).length=i.toNat*S.kt.sz c':=by rw [List.length_take]; omega
       rw [htl] at t2
       have t3:=(t2.perm (List.Perm.swap ..)).imp an2
       rw [hvl] at t3
       have t4:Sat B w ((pts b (o2+i.toNat*S.kt.sz c') vss[i.toNat]::fsS (pcS S.kt) (S.kt.vw c' (atL (S.df c') ys i)) vss[i.toNat])++((pts b o2 (vss.flatten.take (i.toNat*S.kt.sz c'))::pts b (o2+i.toNat*S.kt.sz c'+S.kt.sz c') (vss.flatten.drop (i.toNat*S.kt.sz c'+S.kt.sz c')++spare)::N)++(dH S.kt ρ (del H j)++X))):=by
        refine t3.perm ?_
        simp only [List.cons_append]
        refine List.Perm.cons _ ?_
        refine (List.Perm.swap ..).trans ?_
        refine List.Perm.trans ?_ (List.perm_middle).symm
        refine List.Perm.cons _ ?_
        refine List.Perm.trans ?_ (List.perm_middle).symm
        refine List.Perm.cons _ ?_
        exact (p1.append_right _).trans (by rw [List.append_assoc])
       refine ale (fun k hk =>?_) (?_:Sat B w ((pts b (o2+i.toNat*S.kt.sz c') vss[i.toNat]::fsS (pcS S.kt) (S.kt.vw c' (atL (S.df c') ys i)) vss[i.toNat])++(azi S ρ c' (.elt j i ys)::(dH S.kt ρ (del H j)++X))))
       ·refine aog.2 ⟨vss[i.toNat],?_⟩
        simpa [adR,hA] using hk
       ·have s9:=t4.perm List.perm_append_comm
        rw [List.append_assoc] at s9
        have s10:=ale (A:=azi S ρ c' (.elt j i ys)) (fun k hk =>⟨b,o2,vss,spare,N,hi,⟨hA,hn⟩,⟨h2.symm,h3⟩,⟨r2,r3,hsp⟩,p2,hk⟩) s9
        refine s10.perm ?_
        refine List.Perm.symm ?_
        exact (List.perm_middle).trans (List.Perm.cons _ List.perm_append_comm)
     ·cases h
    ·cases h
   ·cases h
  ·cases h
 ·cases h
theorem ayS {H:S.kt.H} {c:Nat} {x:S.T c} {r:RemC S.T S.M c} {X:List aad} (s:Sat B w (obS S.kt c x (adR S ρ c r)::azi S ρ c r::(dH S.kt ρ H++X))):Sat B w (dH S.kt ρ (az2 S c x H r)++X):=by
 obtain ⟨h,Hh,k1,k2,a,e,hO,hL⟩:=s
 rw [aog] at hO
 obtain ⟨vs,hO⟩:=hO
 have s1:Sat B w ((pts (adR S ρ c r).1 (adR S ρ c r).2 vs::fsS (pcS S.kt) (S.kt.vw c x) vs)++(azi S ρ c r::(dH S.kt ρ H++X))):=⟨h,Hh,aan.2 ⟨k1,k2,a,e,hO,hL⟩⟩
 have hlen:(S.kt.vw c x).length=vs.length:=akh s1
 rw [S.kt.sz_ok] at hlen
 have s2:Sat B w (azi S ρ c r::((pts (adR S ρ c r).1 (adR S ρ c r).2 vs::fsS (pcS S.kt) (S.kt.vw c x) vs)++(dH S.kt ρ H++X))):=s1.perm (aaq fun f g h1 h2 h3 =>by simp only [h1,h2,h3]; omega)
 cases r with
 | cells id pre post =>
  obtain ⟨us,s3⟩:=anT (show Sat B w ((fun h =>∃ us,(fun us h =>∃ ws:List Value,us.length=pre.length∧ab1 (pts (ρ.p id).1 (ρ.p id).2 us::pts (ρ.p id).1 ((ρ.p id).2+pre.length+S.kt.sz c) ws::(fsS (fS S.kt ρ) pre us++fsS (fS S.kt ρ) post ws)) h) us h)::((pts ((ρ.p id).1) ((ρ.p id).2+pre.length) vs::fsS (pcS S.kt) (S.kt.vw c x) vs)++(dH S.kt ρ H++X))) from s2)
  obtain ⟨ws,s4⟩:=anT s3
  obtain ⟨hu,s5⟩:us.length=pre.length∧Sat B w (ab1 (pts (ρ.p id).1 (ρ.p id).2 us::pts (ρ.p id).1 ((ρ.p id).2+pre.length+S.kt.sz c) ws::(fsS (fS S.kt ρ) pre us++fsS (fS S.kt ρ) post ws))::((pts ((ρ.p id).1) ((ρ.p id).2+pre.length) vs::fsS (pcS S.kt) (S.kt.vw c x) vs)++(dH S.kt ρ H++X))):=by
   obtain ⟨h',Hh',j1,j2,a',e',⟨g1,g2⟩,hL'⟩:=s4
   exact ⟨g1,h',Hh',j1,j2,a',e',g2,hL'⟩
  have s6:=aCU s5
  have s7:Sat B w (pts (ρ.p id).1 ((ρ.p id).2+pre.length) vs::pts (ρ.p id).1 ((ρ.p id).2+pre.length+S.kt.sz c) ws::(pts (ρ.p id).1 (ρ.p id).2 us::(fsS (fS S.kt ρ) pre us++(fsS (pcS S.kt) (S.kt.vw c x) vs++fsS (fS S.kt ρ) post ws))++(dH S.kt ρ H++X))):=s6.perm (aaq fun f g h1 h2 h3 =>by simp only [h1,h2,h3]; omega)
  have s8:=s7.imp (an3 (by rw [← hlen]))
  have s9:=(s8.perm (List.Perm.swap ..)).imp (an3 (by rw [hu]))
  refine ale (N:=pts (ρ.p id).1 (ρ.p id).2 (us++(vs++ws))::(fsS (fS S.kt ρ) pre us++(fsS (pcS S.kt) (S.kt.vw c x) vs++fsS (fS S.kt ρ) post ws))) (fun k hk =>⟨us++(vs++ws),?_⟩) s9
  show ab1 (pts (ρ.p id).1 (ρ.p id).2 (us++(vs++ws))::fsS (fS S.kt ρ) (pre++((S.kt.vw c x).map .f++post)) (us++(vs++ws))) k
  rw [ajq hu.symm,ajq (by rw [List.length_map,S.kt.sz_ok,hlen]),arl (pcS S.kt) _ (fun x v =>rfl)]
  exact hk
 | elt j i xs =>
  obtain ⟨h',Hh',j1,j2,a',e',⟨b,o,vss,spare,N,hi,⟨hA,hn⟩,⟨hvl,hvz⟩,⟨hc1,hc2,hc3⟩,hperm,hst⟩,hL'⟩:=s2
  have s3:Sat B w ((pts b o (vss.flatten.take (i.toNat*S.kt.sz c))::pts b (o+i.toNat*S.kt.sz c+S.kt.sz c) (vss.flatten.drop (i.toNat*S.kt.sz c+S.kt.sz c)++spare)::N)++((pts (adR S ρ c (.elt j i xs)).1 (adR S ρ c (.elt j i xs)).2 vs::fsS (pcS S.kt) (S.kt.vw c x) vs)++(dH S.kt ρ H++X))):=⟨h',Hh',aan.2 ⟨j1,j2,a',e',hst,hL'⟩⟩
  have hra:adR S ρ c (.elt j i xs)=(b,o+i.toNat*S.kt.sz c):=by simp [adR,hA]
  rw [hra] at s3
  have hlt:i.toNat<vss.length:=by omega
  have hvs:vss[i.toNat]?=some vss[i.toNat]:=List.getElem?_eq_getElem hlt
  have hfl:=aew hvz
  have hlow:i.toNat*S.kt.sz c+S.kt.sz c≤vss.flatten.length:=by
   rw [hfl]
   have:(i.toNat+1)*S.kt.sz c≤vss.length*S.kt.sz c:=Nat.mul_le_mul_right _ hlt
   rw [Nat.add_mul] at this; omega
  have htl:(vss.flatten.take (i.toNat*S.kt.sz c)).length=i.toNat*S.kt.sz c:=by rw [List.length_take]; omega
  have s4:Sat B w (pts b (o+i.toNat*S.kt.sz c) vs::pts b (o+i.toNat*S.kt.sz c+S.kt.sz c) (vss.flatten.drop (i.toNat*S.kt.sz c+S.kt.sz c)++spare)::(pts b o (vss.flatten.take (i.toNat*S.kt.sz c))::(fsS (pcS S.kt) (S.kt.vw c x) vs++N)++(dH S.kt ρ H++X))):=s3.perm (aaq fun f g h1 h2 h3 =>by simp only [h1,h2,h3]; omega)
  have s5:=s4.imp (an3 (by rw [← hlen]))
  have s6:=(s5.perm (List.Perm.swap ..)).imp (an3 (by rw [htl]))
  have e2:vss.flatten.take (i.toNat*S.kt.sz c)++(vs++(vss.flatten.drop (i.toNat*S.kt.sz c+S.kt.sz c)++spare))=(vss.set i.toNat vs).flatten++spare:=by
   have:=ajr (o:=0) (us:=vs) hvz hvs (by omega)
   have e3:(vss[i.toNat]).take 0++vs++(vss[i.toNat]).drop (0+vs.length)=vs:=by
    have:=hvz _ (List.getElem_mem hlt)
    rw [List.drop_eq_nil_of_le (by omega)]; simp
   rw [e3,Nat.add_zero,← hlen] at this
   rw [this]; simp only [List.append_assoc]
  rw [e2] at s6
  have s7:Sat B w ((pts b o ((vss.set i.toNat vs).flatten++spare)::acB S.kt (pcS S.kt) c (xs.set i.toNat x) (vss.set i.toNat vs))++(dH S.kt ρ H++X)):=s6.perm (List.Perm.cons _ ((hperm x vs).symm.append_right _))
  refine ale (fun k hk =>?_) s7
  obtain ⟨q1,q2,qa,qe,g1,g2⟩:=hk
  refine ⟨by rw [List.length_set]; exact hn,adO.2 ⟨vss.set i.toNat vs,q1,q2,qa,qe,⟨?_,?_,hc2,.inr ⟨b,o,spare,hA,?_,g1⟩⟩,g2⟩⟩
  ·have hz2:∀ v∈vss.set i.toNat vs,v.length=S.kt.sz c:=fun v hv =>by
    rcases List.mem_or_eq_of_mem_set hv with e | e
    ·exact hvz v e
    ·rw [e,← hlen]
   rw [aew hz2,List.length_set,List.length_set,hvl]
  ·rw [List.length_set]; exact hc1
  ·rw [List.length_set]; exact hc3
end
section
variable (S:Shp)
def aCc:List Pk→Type
 | [] =>Unit
 | .ref c::l =>RemC S.T S.M c×aCc l
 | .mch::l =>Nat×aCc l
 | .lent _::l =>Nat×aCc l
 | .sh _::l =>aCc l
 | .val _::l =>aCc l
def azm (Z:S.kt.H):(ps:List Pk)→S.kt.H→List V→Option (amk S ps×S.kt.H×aCc S ps)
 | [],H,[] =>some ((),H,())
 | .sh s::ps,H,v::vs =>match aKr S Z H s v with
  | some (x,H1) =>match azm Z ps H1 vs with
   | some (r,H2,m) =>some ((x,r),H2,m)
   | none =>none
  | none =>none
 | .val c::ps,H,v::vs =>match aKt S H c v with
  | some (x,H1) =>match azm Z ps H1 vs with
   | some (r,H2,m) =>some ((x,r),H2,m)
   | none =>none
  | none =>none
 | .ref c::ps,H,v::vs =>match aCb S H c v with
  | some (x,H1,q) =>match azm Z ps H1 vs with
   | some (r,H2,m) =>some ((x,r),H2,(q,m))
   | none =>none
  | none =>none
 | .mch::ps,H,v::vs =>match v with
  | .mc id =>match get H id with
   | some (.mach x) =>match azm Z ps (del H id) vs with
    | some (r,H2,m) =>some ((x,r),H2,(id,m))
    | none =>none
   | _ =>none
  | _ =>none
 | .lent c::ps,H,v::vs =>match v with
  | .sl id =>match get H id with
   | some (.row c' xs) =>match aov c' c xs with
    | some ys =>match azm Z ps (del H id) vs with
     | some (r,H2,m) =>some ((ys,r),H2,(id,m))
     | none =>none
    | none =>none
   | _ =>none
  | _ =>none
 | _,_,_ =>none
def amO:(ps:List Pk)→aCc S ps→ak7 S ps→S.kt.H→S.kt.H
 | [],_,_,H =>H
 | .sh _::ps,m,o,H =>amO ps m o H
 | .val _::ps,m,o,H =>amO ps m o H
 | .ref c::ps,m,o,H =>az2 S c o.1 (amO ps m.2 o.2 H) m.1
 | .mch::ps,m,o,H =>(m.1,.mach o.1)::amO ps m.2 o.2 H
 | .lent c::ps,m,o,H =>(m.1,.row c o.1)::amO ps m.2 o.2 H
def arT (ρ:Env):(ps:List Pk)→aCc S ps→List aad
 | [],_ =>[]
 | .sh _::ps,m =>arT ρ ps m
 | .val _::ps,m =>arT ρ ps m
 | .ref c::ps,m =>azi S ρ c m.1::arT ρ ps m.2
 | .mch::ps,m =>arT ρ ps m.2
 | .lent _::ps,m =>arT ρ ps m.2
def aq9 (ρ:Env):(ps:List Pk)→aCc S ps→List Value→Prop
 | [],_,_ =>True
 | .sh _::ps,m,_::vs =>aq9 ρ ps m vs
 | .val _::ps,m,_::vs =>aq9 ρ ps m vs
 | .ref c::ps,m,v::vs =>v=.pointer (some ⟨(adR S ρ c m.1).1,(adR S ρ c m.1).2,none⟩)∧aq9 ρ ps m.2 vs
 | .mch::ps,m,v::vs =>v=ρ.v m.1∧aq9 ρ ps m.2 vs
 | .lent _::ps,m,v::vs =>v=aav ρ (.sl m.1)∧aq9 ρ ps m.2 vs
 | _::_,_,[] =>False
end
section
variable {S:Shp} {B:Nat} {w:World} {ρ:Env}
theorem aF4 {id c' c:Nat} {zs:List (S.T c')} {ys:List (S.T c)} {L:List aad} (s:Sat B w (acq S.kt ρ id (.row c' zs)::L)) (hq:aov c' c zs=some ys):Sat B w (pcS S.kt (.row c ys) (aav ρ (.sl id))::L):=by
 obtain ⟨e,he⟩:=ahr hq
 subst e
 subst he
 refine abl (fun k hk =>?_) s
 rw [aaJ]
 exact ⟨(ρ.s id).a,(ρ.s id).c,by rw [← hk.1]; rfl,hk.2⟩
theorem aIu {id c:Nat} {xs:List (S.T c)} {L:List aad} (s:Sat B w (pcS S.kt (.row c xs) (aav ρ (.sl id))::L)):Sat B w (acq S.kt ρ id (.row c xs)::L):=abl (fun k hk =>by
 rw [aaJ] at hk
 obtain ⟨A,cap,e,h⟩:=hk
 injection e with e1 e2 e3
 subst e1 e3
 exact ⟨e2,h⟩) s
theorem aoG {Z:S.kt.H}:∀ {ps:List Pk} {H H':S.kt.H} {vs:List V} {x:amk S ps} {m:aCc S ps},azm S Z ps H vs=some (x,H',m)→∀ {X:List aad},Sat B w (dH S.kt ρ H++(dH S.kt ρ Z++X)) →
  aq9 S ρ ps m (aag ρ vs)∧Sat B w (arP S ps x (aag ρ vs)++(arT S ρ ps m++(dH S.kt ρ H'++(dH S.kt ρ Z++X))))
 | [],H,H',[],x,m,h,X,s =>by cases h; exact ⟨trivial,s⟩
 | [],_,_,_::_,_,_,h,_,_ =>by cases h
 | .sh _::_,_,_,[],_,_,h,_,_ =>by cases h
 | .val _::_,_,_,[],_,_,h,_,_ =>by cases h
 | .ref _::_,_,_,[],_,_,h,_,_ =>by cases h
 | .mch::_,_,_,[],_,_,h,_,_ =>by cases h
 | .lent _::_,_,_,[],_,_,h,_,_ =>by cases h
 | .sh s0::ps,H,H',v::vs,x,m,h,X,s =>by
  unfold azm at h
  split at h
  ·rename_i y H1 h1
   split at h
   ·rename_i r H2 m' h2
    cases h
    have s1:=aB2 h1 s
    obtain ⟨l,s2⟩:=aoG h2 (X:=pcS S.kt (vw1 S.T S.M s0 y) (aav ρ v)::X) (s1.perm (aaq fun f g h1 h2 h3 =>by simp only [h1,h2,h3]; omega))
    exact ⟨l,s2.perm (aaq fun f g h1 h2 h3 =>by simp only [h1,h2,h3,arP,aag,List.cons_append,arT]; omega)⟩
   ·cases h
  ·cases h
 | .val c::ps,H,H',v::vs,x,m,h,X,s =>by
  unfold azm at h
  split at h
  ·rename_i y H1 h1
   split at h
   ·rename_i r H2 m' h2
    cases h
    have s1:=aB4 h1 s
    obtain ⟨l,s2⟩:=aoG h2 (X:=aCz S c y (aav ρ v)::X) (s1.perm (aaq fun f g h1 h2 h3 =>by simp only [h1,h2,h3]; omega))
    exact ⟨l,s2.perm (aaq fun f g h1 h2 h3 =>by simp only [h1,h2,h3,arP,aag,List.cons_append,arT]; omega)⟩
   ·cases h
  ·cases h
 | .ref c::ps,H,H',v::vs,x,m,h,X,s =>by
  unfold azm at h
  split at h
  ·rename_i y H1 q h1
   split at h
   ·rename_i r H2 m' h2
    cases h
    obtain ⟨hv,s1⟩:=aCa h1 s
    have s1':Sat B w (pcS S.kt (.own c y) (aav ρ v)::azi S ρ c q::(dH S.kt ρ H1++(dH S.kt ρ Z++X))):=abl (fun k hk =>aaJ.2 (show pcW S.kt (obS S.kt) (rwS S.kt) (.own c y) (aav ρ v) k from ⟨_,hv,hk⟩)) s1
    obtain ⟨l,s2⟩:=aoG h2 (X:=pcS S.kt (.own c y) (aav ρ v)::azi S ρ c q::X) (s1'.perm (aaq fun f g h1 h2 h3 =>by simp only [h1,h2,h3]; omega))
    exact ⟨⟨hv,l⟩,s2.perm (aaq fun f g h1 h2 h3 =>by simp only [h1,h2,h3,arP,aag,List.cons_append,arT]; omega)⟩
   ·cases h
  ·cases h
 | .mch::ps,H,H',v::vs,x,m,h,X,s =>by
  unfold azm at h
  split at h
  ·rename_i id
   split at h
   ·rename_i y hg
    split at h
    ·rename_i r H2 m' h2
     cases h
     have s1:=s.imp (aaQ (ρ:=ρ) hg)
     obtain ⟨l,s2⟩:=aoG h2 (X:=pcS S.kt (.mach y) (ρ.v id)::X) (s1.perm (aaq fun f g h1 h2 h3 =>by simp only [h1,h2,h3,acq]; omega))
     exact ⟨⟨rfl,l⟩,s2.perm (aaq fun f g h1 h2 h3 =>by simp only [h1,h2,h3,arP,aag,aav,List.cons_append,arT]; omega)⟩
    ·cases h
   ·cases h
  ·cases h
 | .lent c::ps,H,H',v::vs,x,m,h,X,s =>by
  unfold azm at h
  split at h
  ·rename_i id
   split at h
   ·rename_i c' zs hg
    split at h
    ·rename_i ys hq
     split at h
     ·rename_i r H2 m' h2
      cases h
      have s1:=aF4 (s.imp (aaQ (ρ:=ρ) hg)) hq
      obtain ⟨l,s2⟩:=aoG h2 (X:=pcS S.kt (.row c ys) (aav ρ (.sl id))::X) (s1.perm (aaq fun f g h1 h2 h3 =>by simp only [h1,h2,h3]; omega))
      exact ⟨⟨rfl,l⟩,s2.perm (aaq fun f g h1 h2 h3 =>by simp only [h1,h2,h3,arP,aag,List.cons_append,arT]; omega)⟩
     ·cases h
    ·cases h
   ·cases h
  ·cases h
theorem aIG {c:Nat} {x:S.T c} {q:Nat×Nat} {L:List aad} (s:Sat B w (pcS S.kt (.own c x) (.pointer (some ⟨q.1,q.2,none⟩))::L)):Sat B w (obS S.kt c x q::L):=abl (fun k hk =>by
 rw [aaJ] at hk
 obtain ⟨⟨a',b'⟩,e,h⟩:=hk
 obtain ⟨a,b⟩:=q
 cases e
 exact h) s
theorem alg:∀ {ps:List Pk} {H:S.kt.H} {m:aCc S ps} {o:ak7 S ps} {vs:List Value} {X:List aad},aq9 S ρ ps m vs→Sat B w (ais S ps o vs++(arT S ρ ps m++(dH S.kt ρ H++X)))→Sat B w (dH S.kt ρ (amO S ps m o H)++X)
 | [],H,m,o,vs,X,_,s =>by cases vs<;>exact s
 | p::_,_,_,_,[],_,l,_ =>by cases p<;>exact l.elim
 | .sh _::ps,H,m,o,v::vs,X,l,s =>alg (ps:=ps) l s
 | .val _::ps,H,m,o,v::vs,X,l,s =>alg (ps:=ps) l s
 | .ref c::ps,H,m,o,v::vs,X,l,s =>by
  obtain ⟨hv,l'⟩:=l
  have s1:Sat B w (ais S ps o.2 vs++(arT S ρ ps m.2++(dH S.kt ρ H++(pcS S.kt (.own c o.1) v::azi S ρ c m.1::X)))):=s.perm (aaq fun f g h1 h2 h3 =>by simp only [ais,arT,List.cons_append,h1,h2,h3]; omega)
  have s2:=alg l' s1
  rw [hv] at s2
  have s3:=aIG (q:=adR S ρ c m.1) (s2.perm (alE (dH S.kt ρ (amO S ps m.2 o.2 H)) [] _ _))
  exact ayS (s3.perm (aaq fun f g h1 h2 h3 =>by simp only [h1,h2,h3]; omega))
 | .mch::ps,H,m,o,v::vs,X,l,s =>by
  obtain ⟨hv,l'⟩:=l
  have s1:Sat B w (ais S ps o.2 vs++(arT S ρ ps m.2++(dH S.kt ρ H++(pcS S.kt (.mach o.1) v::X)))):=s.perm (aaq fun f g h1 h2 h3 =>by simp only [ais,arT,List.cons_append,h1,h2,h3]; omega)
  have s2:=alg l' s1
  rw [hv] at s2
  exact s2.perm (aaq fun f g h1 h2 h3 =>by simp only [amO,dH,List.map_cons,acq,List.cons_append,h1,h2,h3]; omega)
 | .lent c::ps,H,m,o,v::vs,X,l,s =>by
  obtain ⟨hv,l'⟩:=l
  have s1:Sat B w (ais S ps o.2 vs++(arT S ρ ps m.2++(dH S.kt ρ H++(pcS S.kt (.row c o.1) v::X)))):=s.perm (aaq fun f g h1 h2 h3 =>by simp only [ais,arT,List.cons_append,h1,h2,h3]; omega)
  have s2:=alg l' s1
  rw [hv] at s2
  have s3:=aIu (s2.perm (alE (dH S.kt ρ (amO S ps m.2 o.2 H)) [] _ _))
  exact s3.perm (aaq fun f g h1 h2 h3 =>by simp only [amO,dH,List.map_cons,List.cons_append,List.nil_append,h1,h2,h3]; try omega)
structure Con (S:Shp) where
 f:FuncId
 ps:List Pk
 rs:List Rk
 spec:amk S ps→Option (amn S rs×ak7 S ps)
def aBH (S:Shp) (c:Con S) {α:Type} (vs:List V) (n:Nat) (Z H:S.kt.H) (k:Nat→S.kt.H→V→Option α):Option α :=
 match azm S Z c.ps (aLz S.kt H) vs with
 | some (x,H1,m) =>(c.spec x).bind fun out =>match Nat.ble (agi (amO S c.ps m out.2 H1)) n with
  | true =>k (av3 S c.rs out.1 n).2.2 ((av3 S c.rs out.1 n).2.1++amO S c.ps m out.2 H1) (aFq (av3 S c.rs out.1 n).1)
  | false =>none
 | none =>none
def aDY (S:Shp):List (Con S)→FuncId→Option (Con S)
 | [],_ =>none
 | c::l,f =>match Nat.beq c.f f with
  | true =>some c
  | false =>aDY S l f
def ayC (S:Shp) (cs:List (Con S)):amm S.kt:=fun _ f vs n Z H k =>match aDY S cs f with
 | some c =>aBH S c vs n Z H k
 | none =>none
theorem aDX {cs:List (Con S)} {f:FuncId} {c:Con S} (h:aDY S cs f=some c):c∈cs∧c.f=f:=by
 induction cs with
 | nil =>cases h
 | cons d cs ih =>
  unfold aDY at h
  split at h
  ·rename_i e; cases h; exact ⟨List.mem_cons_self ..,Nat.eq_of_beq_eq_true e⟩
  ·obtain ⟨h1,h2⟩:=ih h; exact ⟨List.mem_cons_of_mem _ h1,h2⟩
theorem aw0:∀ {rs:List Rk} {x:amn S rs} {n:Nat},n≤(av3 S rs x n).2.2
 | [],_,_ =>Nat.le_refl _
 | .sh _::rs,x,n =>Nat.le_trans (Nat.le_succ n) (aw0 (rs:=rs) (x:=x.2))
 | .val c::rs,x,n =>Nat.le_trans (Nat.le_add_right ..) (aw0 (rs:=rs) (x:=x.2))
theorem avM [Tb] {P:Program} {W:World} (hg:aHV B W) {cs:List (Con S)} (h:∀ c∈cs,aCi S P c.f c.ps c.rs c.spec):alX S.kt P B W (ayC S cs):=by
 intro α fid vs n Z H k out hk h1 h2 h3 F ρ w hw
 unfold ayC at hk
 split at hk
 ·rename_i c hc
  obtain ⟨hm,rfl⟩:=aDX hc
  unfold aBH at hk
  split at hk
  ·rename_i x H1 m hx
   cases hsp:c.spec x with
   | none =>rw [hsp] at hk; cases hk
   | some o =>
    rw [hsp] at hk
    simp only [Option.bind_some] at hk
    split at hk
    ·rename_i hB
     have hB':=Nat.le_of_ble_eq_true hB
     obtain ⟨l,s1⟩:=aoG hx (X:=[F]) (aHu hw.2.2)
     have hcl:Cls B W (arP S c.ps x (aag ρ vs)++[aFG (arT S ρ c.ps m++(dH S.kt ρ H1++(dH S.kt ρ Z++[F])))]) w:=⟨hw.1,hw.2.1,s1.fold⟩
     refine agT.mono (h c hm x o hsp B W hg (aag ρ vs) _ w hcl) ?_
     rintro e w' ⟨us,he,hb1,hb2,hs⟩
     have s2:Sat B w' (auk S c.rs o.1 us++(ais S c.ps o.2 (aag ρ vs)++(arT S ρ c.ps m++(dH S.kt ρ H1++(dH S.kt ρ Z++[F]))))):=by
      rw [← List.append_assoc] at hs
      have:=hs.unfold
      rwa [List.append_assoc] at this
     have s3:Sat B w' (ais S c.ps o.2 (aag ρ vs)++(arT S ρ c.ps m++(dH S.kt ρ H1++(auk S c.rs o.1 us++(dH S.kt ρ Z++[F]))))):=s2.perm (aaq fun f g h1 h2 h3 =>by simp only [h1,h2,h3]; omega)
     have s4:=alg l s3
     have s5:Sat B w' (auk S c.rs o.1 us++(fun ρ =>dH S.kt ρ (amO S c.ps m o.2 H1)++tl S.kt Z F ρ) ρ):=s4.perm (adq _ _ _)
     obtain ⟨ρ',a,e1,s6⟩:=awZ (n:=n) (X:=fun ρ =>dH S.kt ρ (amO S c.ps m o.2 H1)++tl S.kt Z F ρ) (fun ρ ρ' ha =>by
      show _++_=_++_
      rw [aca ha _ hB',ada h2 ha]) s5
     refine ⟨⟨ρ',_,_,_⟩,⟨a,aw0,hk⟩,?_,hb1,hb2,?_⟩
     ·rw [he,e1,axo]; rfl
     ·rw [dS,dHa,List.append_assoc]; exact s6
    ·cases hk
  ·cases hk
 ·cases hk
end
section
variable {S:Shp}
variable [Tb]
def CO (P:Program) (c:Con S):Prop:=aCi S P c.f c.ps c.rs c.spec
def Oks (P:Program):List (Con S)→Prop
 | [] =>True
 | c::l =>CO P c∧Oks P l
theorem Oks.mem {P:Program}:∀ {l:List (Con S)},Oks P l→∀ c∈l,CO P c
 | [],_,c,h =>by cases h
 | d::l,⟨h1,h2⟩,c,h =>(List.mem_cons.1 h).elim (fun e =>by subst e; exact h1) (h2.mem c)
def Tbs (P:Program):List (Nat×Func)→Prop
 | [] =>True
 | p::l =>P.funcs[p.1]?=some p.2∧Tbs P l
theorem Tbs.mem {P:Program}:∀ {l:List (Nat×Func)},Tbs P l→∀ p∈l,P.funcs[p.1]?=some p.2
 | [],_,c,h =>by cases h
 | d::l,⟨h1,h2⟩,c,h =>(List.mem_cons.1 h).elim (fun e =>by subst e; exact h1) (h2.mem c)
noncomputable abbrev evC (P:Program) (tb:List (Nat×Func)) (hsf:Nat→List (Nat×Hint)) (cs:List (Con S)) (hs:List (Nat×Hint)) (fn:Func) (c:Con S) (x:amk S c.ps):Option (amn S c.rs×ak7 S c.ps) :=
 evF S P (inl S P tb hsf (ayC S cs) tb.length) hs fn (cin S c.ps x 0).1 (cin S c.ps x 0).2.2 [] (cin S c.ps x 0).2.1 (aHM S c.ps c.rs)
theorem ahZ {P:Program} (hm:P.follows .mixedOrders=true) {c:Con S} {fn:Func} (hf:P.funcs[c.f]?=some fn) (cs:List (Con S)) (h:Oks P cs) (tb:List (Nat×Func)) (ht:Tbs P tb) (hsf:Nat→List (Nat×Hint)) (hs:List (Nat×Hint))
  (he:∀ x,evC P tb hsf cs hs fn c x=c.spec x) (hb:Nat.blt c.f agX=true:=by rfl):CO P c :=
 aEf hm hf (fun _ _ hg =>aEY hm ht.mem (avM hg h.mem) tb.length) he hb
theorem aam {P:Program} (hm:P.follows .mixedOrders=true) {c:Con S} {fn:Func} (hf:P.funcs[c.f]?=some fn) (cs:List (Con S)) (h:Oks P cs) (hs:List (Nat×Hint):=[]) (he:∀ x,evC P [] (fun _ =>[]) cs hs fn c x=c.spec x:=by intro x; kernel_rfl) (hb:Nat.blt c.f agX=true:=by rfl):CO P c:=ahZ hm hf cs h [] trivial (fun _ =>[]) hs he hb
theorem aw2 {P:Program} {c:Con S} (h:CO P c) {spec:amk S c.ps→Option (amn S c.rs×ak7 S c.ps)} (he:∀ x out,spec x=some out→c.spec x=some out):CO P ⟨c.f,c.ps,c.rs,spec⟩:=fun x out hx =>h x out (he x out hx)
end
theorem avb {K:KT} {m:K.M} {p:Σ c:Nat,K.T c} (h:K.spl m=some p) {v:Value} {k:Hp}:pcS K (.mach m) v k↔∃ q:Nat×Nat,v=.iface (K.tid p.1) (.pointer (some ⟨q.1,q.2,none⟩))∧obS K p.1 p.2 q k:=by
 rw [aaJ]
 have e:pcW K (obS K) (rwS K) (.mach m) v k=(match K.spl m with
  | none =>v=.nilIface
  | some p =>∃ q:Nat×Nat,v=.iface (K.tid p.1) (.pointer (some ⟨q.1,q.2,none⟩))∧obS K p.1 p.2 q k):=rfl
 rw [e,h]
section
variable {S:Shp}
variable [Tb]
theorem aEg {P:Program} {f:FuncId} {call:amm S.kt} (hc:∀ B W,aHV B W→alX S.kt P B W call) {ps:List Pk} {rs:List Rk} {spec:amk S ps→Option (amn S rs×ak7 S ps)}
  (h:∀ x,(match Nat.ble (ai8 (cin S ps x 0).1) (cin S ps x 0).2.2 && Nat.ble (agi (cin S ps x 0).2.1) (cin S ps x 0).2.2 with
   | true =>call _ f (cin S ps x 0).1 (cin S ps x 0).2.2 [] (cin S ps x 0).2.1 (aHM S ps rs)
   | false =>none)=spec x):aCi S P f ps rs spec:=by
 intro x out hx B W hg vs F w hw
 obtain ⟨ρ,_,e1,s1⟩:=arC (n:=0) (ρ:=⟨fun _ =>(0,0),fun _ =>⟨none,0,0⟩,fun _ =>undef⟩) (X:=fun _ =>[F]) (fun _ _ _ =>rfl) hw.2.2
 have s2:Cls B W (dS S.kt ρ [] (cin S ps x 0).2.1 F) w:=⟨hw.1,hw.2.1,s1⟩
 have h0:=(h x).trans hx
 split at h0
 ·rename_i hB
  simp only [Bool.and_eq_true] at hB
  have h1:=hc B W hg _ f _ _ _ _ _ _ h0 (Nat.le_of_ble_eq_true hB.1) (Nat.zero_le _) (Nat.le_of_ble_eq_true hB.2) F ρ w s2
  rw [← e1] at h1
  refine h1.mono fun e w' ⟨y,⟨ha,hn,hk⟩,he,hb1,hb2,hs⟩ =>?_
  unfold aHM at hk
  split at hk
  ·rename_i l hl
   split at hk
   ·rename_i r H1 hr
    split at hk
    ·rename_i o H2 ho
     cases hk
     have s3:=at7 hr (X:=[F]) (atU hs)
     have s4:Sat B w' (dH S.kt y.ρ H1++(auk S rs r (aag y.ρ l)++[F])):=s3.perm (adq _ _ _)
     have s5:=amj ho (ajz e1 ha).1 s4
     refine ⟨aag y.ρ l,?_,hb1,hb2,?_⟩
     ·rw [he,axF hl]
     ·have s6:=s5.perm (adq (ais S ps o vs) (dH S.kt y.ρ H2) (auk S rs r (aag y.ρ l)++[F]))
      have s7:Sat B w' (ais S ps o vs++(auk S rs r (aag y.ρ l)++[F])):=s6.imp fun _ =>ahH
      exact s7.perm (adq _ _ _)
    ·cases hk
   ·cases hk
  ·cases hk
 ·cases h0
noncomputable abbrev asC (cs:List (Con S)) (c:Con S) (x:amk S c.ps):Option (amn S c.rs×ak7 S c.ps) :=
 match Nat.ble (ai8 (cin S c.ps x 0).1) (cin S c.ps x 0).2.2 && Nat.ble (agi (cin S c.ps x 0).2.1) (cin S c.ps x 0).2.2 with
 | true =>ayC S cs _ c.f (cin S c.ps x 0).1 (cin S c.ps x 0).2.2 [] (cin S c.ps x 0).2.1 (aHM S c.ps c.rs)
 | false =>none
theorem acA {P:Program} {c:Con S} (cs:List (Con S)) (h:Oks P cs) (he:∀ x,asC cs c x=c.spec x):CO P c:=aEg (fun _ _ hg =>avM hg h.mem) he
def aFi (S:Shp) (P:Program) (i c:Nat) (f:FuncId):Prop :=
 ∀ (b o:Nat) (rest:Array Value) (w:World),(callMethod (.iface (S.tid c) (.pointer (some ⟨b,o,none⟩))) (mN i) rest).run P w=.ok (.enter f (#[.pointer (some ⟨b,o,none⟩)]++rest)) w
def ar3 (S:Shp) (P:Program) (i:Nat) (ps:List Pk) (rs:List Rk) (m:S.M) (xs:amk S ps) (out:amn S rs×(S.M×ak7 S ps)):Prop :=
 ∃ (c:Nat) (x y:S.T c) (k:Con S),S.spl m=some ⟨c,x⟩∧S.spl out.2.1=some ⟨c,y⟩∧aFi S P i c k.f∧Nat.blt k.f agX=true∧CO P k ∧
  ∃ (e1:k.ps=.ref c::ps) (e2:k.rs=rs),k.spec (e1▸((x,xs):amk S (.ref c::ps)))=some (e2▸out.1,e1▸((y,out.2.2):ak7 S (.ref c::ps)))
theorem akT {P:Program} {i:Nat} {ps:List Pk} {rs:List Rk} {spec:S.M→amk S ps→Option (amn S rs×(S.M×ak7 S ps))} (h:∀ m xs out,spec m xs=some out→ar3 S P i ps rs m xs out):CO P ⟨agX+i,.mch::ps,rs,fun x =>spec x.1 x.2⟩:=by
 intro x out hx B W hg vs F w hw
 obtain ⟨c,y0,y1,⟨kf,kps,krs,ksp⟩,h1,h2,h3,h4,h5,e1,e2,h6⟩:=h x.1 x.2 out hx
 simp only at e1 e2 h3 h4
 subst e1
 subst e2
 obtain ⟨hb1,hb2,hs⟩:=hw
 rcases vs with _ | ⟨v,vs⟩
 ·exact aaP hs
 have hs0:Sat B w (pcS S.kt (.mach x.1) v::(arP S ps x.2 vs++[F])):=hs
 have hs1:Sat B w ((fun k =>∃ q:Nat×Nat,v=.iface (S.tid c) (.pointer (some ⟨q.1,q.2,none⟩))∧obS S.kt c y0 q k)::(arP S ps x.2 vs++[F])):=by
  exact abl (fun k hk =>(avb (K:=S.kt) h1).1 hk) hs0
 obtain ⟨⟨q1,q2⟩,hs2⟩:=anT hs1
 obtain ⟨hh,Hh,j1,j2,ja,je,⟨rfl,ho⟩,hL⟩:=hs2
 have hs3:Sat B w (arP S (.ref c::ps) (y0,x.2) (.pointer (some ⟨q1,q2,none⟩)::vs)++[F]):=by
  refine ⟨hh,Hh,j1,j2,ja,je,?_,hL⟩
  exact aaJ.2 (show pcW S.kt (obS S.kt) (rwS S.kt) (.own c y0) _ _ from ⟨(q1,q2),rfl,ho⟩)
 have hcall:=h5 (y0,x.2) _ h6 B W hg (.pointer (some ⟨q1,q2,none⟩)::vs) F w ⟨hb1,hb2,hs3⟩
 rw [aeA h4] at hcall
 show agT P (agX+i) _ _ _
 rw [arF]
 refine ⟨S.tid c,.pointer (some ⟨q1,q2,none⟩),vs.toArray,kf,by simp,fun w' =>h3 q1 q2 _ w',?_⟩
 have e3:(#[Value.pointer (some ⟨q1,q2,none⟩)]++vs.toArray:Array Value)=(.pointer (some ⟨q1,q2,none⟩)::vs).toArray:=by simp
 rw [e3]
 refine hcall.mono fun e w' ⟨us,he,hc1,hc2,hs4⟩ =>⟨us,he,hc1,hc2,?_⟩
 refine hs4.perm (List.perm_middle (l₁:=auk S krs out.1 us)) |> fun hs5 =>?_
 refine (abl (A:=pcS S.kt (.own c y1) (.pointer (some ⟨q1,q2,none⟩))) (fun k hk =>?_) hs5).perm (List.perm_middle (l₁:=auk S krs out.1 us) (l₂:=ais S ps out.2.2 vs++[F])).symm
 rw [aaJ] at hk
 obtain ⟨q,e,hk'⟩:=hk
 exact (avb (K:=S.kt) h2).2 ⟨q,by rw [e],hk'⟩
def via {ps:List Pk} {rs:List Rk} {c:Nat} (mk:S.T c→S.M) (sp:amk S (.ref c::ps)→Option (amn S rs×ak7 S (.ref c::ps))) (x:S.T c) (xs:amk S ps):Option (amn S rs×(S.M×ak7 S ps)) :=
 (sp (x,xs)).bind fun o =>some (o.1,(mk o.2.1,o.2.2))
theorem abc {P:Program} {i:Nat} {ps:List Pk} {rs:List Rk} {c:Nat} {mk:S.T c→S.M} (hmk:∀ y,S.spl (mk y)=some ⟨c,y⟩) {f:FuncId} {sp:amk S (.ref c::ps)→Option (amn S rs×ak7 S (.ref c::ps))} (hf:Nat.blt f agX=true) (hm:aFi S P i c f) (hc:CO P ⟨f,.ref c::ps,rs,sp⟩)
  {x:S.T c} {xs:amk S ps} {out:amn S rs×(S.M×ak7 S ps)} (h:via mk sp x xs=some out):ar3 S P i ps rs (mk x) xs out:=by
 unfold via at h
 cases hs:sp (x,xs) with
 | none =>rw [hs] at h; cases h
 | some o =>
  rw [hs] at h
  cases h
  exact ⟨c,x,o.2.1,⟨f,.ref c::ps,rs,sp⟩,hmk x,hmk _,hm,hf,hc,rfl,rfl,hs⟩
end
structure EnvV where
 c:Cfg
 m:MemV
 now:Int
 draw:Int
 recs:List RecV
 evs:List Ev
structure MaV where
 f:List FrV
 over:Bool
 code:Int
 value:Int
structure EngV where
 e:EnvV
 m:List MaV
 n:Int
 stamps:List Int
 last:AccV
structure CodV where
 inn:List Int
 out:List Int
 at_:Int
 bad:Bool
structure FgV where
 acc:Int
 rej:Int
 spa:Int
 ref:Int
 sta:Int
 fin:Int
 ste:Int
 ski:Int
 boo:Int
 age:Int
 par:Int
 lat:Int
 wor:Int
 deriving DecidableEq
structure OutV where
 ended:Bool
 code:Int
 value:Int
 deriving DecidableEq
structure LayV where
 workers:Int
 levels:Int
 classes:Int
 tasks:Int
 deque:Int
 heap:Int
 sleepers:Int
 epochs:Int
 bitmaps:Int
 queues:Int
 table:Int
 deriving DecidableEq
structure ClkV where
 now:Int
 draw:Int
 deriving DecidableEq
structure RecP where
 prog:Int
 parent:Int
 pc:Int
 left:Int
 waiting:Int
 kids:List Int
 started:Bool
 deriving DecidableEq
structure EnvP where
 c:Cfg
 l:LayV
 m:MemV
 k:ClkV
 recs:List RecP
 evs:List Ev
structure B16 where
 b0:Int
 b1:Int
 b2:Int
 b3:Int
 b4:Int
 b5:Int
 b6:Int
 b7:Int
 b8:Int
 b9:Int
 b10:Int
 b11:Int
 b12:Int
 b13:Int
 b14:Int
 b15:Int
 deriving DecidableEq
structure ClientV (M:Type) where
 subs:List Sub
 me:Int
 i:Int
 line:Int
 inside:M
 fresh:Bool
 id:Int
 accepted:Bool
structure WorkerV (M:Type) where
 worker:Int
 cursor:Int
 line:Int
 inside:M
 victim:Int
 level:Int
 x:Int
structure SleepV where
 o:OutV
 worker:Int
 line:Int
 ep:Int
 v:Int
 since:Int
structure RunV (M:Type) where
 o:OutV
 worker:Int
 stack:List Int
 line:Int
 inside:M
 id:Int
 child:Int
 level:Int
 waiter:Int
structure AttemptV where
 o:OutV
 owner:Int
 once:Bool
structure AllocV where
 o:OutV
structure InsertV where
 o:OutV
 deadline:Int
 task:Int
 line:Int
 n:Int
 i:Int
 k:Int
 x:Int
structure ReleaseV where
 o:OutV
structure WakeV where
 o:OutV
 me:Int
 level:Int
 line:Int
 j:Int
 v:Int
structure TakeV (M:Type) where
 o:OutV
 worker:Int
 claiming:Bool
 inside:M
structure SweepV (M:Type) where
 o:OutV
 worker:Int
 task:Int
 line:Int
 q:Int
 push:M
structure DrainV (M:Type) where
 o:OutV
 worker:Int
 line:Int
 inside:M
 x:Int
 direct:Bool
 p:Int
 last:Int
 count:Int
structure StealV where
 o:OutV
 q:QV
 line:Int
 t:Int
 value:Int
structure ResetV where
 o:OutV
 cell:Int
 bit:Int
 q:QV
 line:Int
 b:Int
structure LPopV (M:Type) where
 o:OutV
 worker:Int
 level:Int
 line:Int
 inside:M
structure ClaimV where
 o:OutV
 worker:Int
 task:Int
structure ProbeV where
 o:OutV
 worker:Int
 begun:Bool
 start:Int
 next:Int
 bm:B16
structure LPushV (M:Type) where
 o:OutV
 worker:Int
 level:Int
 value:Int
 line:Int
 inside:M
structure WalkV (M:Type) where
 o:OutV
 worker:Int
 task:Int
 level:Int
 line:Int
 inside:M
structure EnterV (M:Type) where
 o:OutV
 worker:Int
 task:Int
 level:Int
 line:Int
 push:M
structure PublishV where
 o:OutV
 task:Int
 level:Int
 line:Int
structure RemoveV where
 o:OutV
 worker:Int
 line:Int
 n:Int
 i:Int
 c:Int
 x:Int
 y:Int
 z:Int
structure OPopV where
 o:OutV
 q:QV
 line:Int
 b:Int
 t:Int
structure OPushV where
 o:OutV
 q:QV
 value:Int
 line:Int
 b:Int
structure SetV where
 o:OutV
 cell:Int
 bit:Int
structure RaiseV where
 o:OutV
 worker:Int
 task:Int
 level:Int
 line:Int
 q:Int
inductive MV where
 | nil
 | client (x:ClientV MV)
 | worker (x:WorkerV MV)
 | sleep (x:SleepV)
 | run (x:RunV MV)
 | attempt (x:AttemptV)
 | alloc (x:AllocV)
 | insert (x:InsertV)
 | release (x:ReleaseV)
 | wake (x:WakeV)
 | take (x:TakeV MV)
 | sweep (x:SweepV MV)
 | drain (x:DrainV MV)
 | steal (x:StealV)
 | reset (x:ResetV)
 | lpop (x:LPopV MV)
 | claim (x:ClaimV)
 | probe (x:ProbeV)
 | lpush (x:LPushV MV)
 | walk (x:WalkV MV)
 | enter (x:EnterV MV)
 | publish (x:PublishV)
 | remove (x:RemoveV)
 | opop (x:OPopV)
 | opush (x:OPushV)
 | set (x:SetV)
 | raise (x:RaiseV)
structure EngP where
 e:EnvP
 ws:List (WorkerV MV)
 cl:ClientV MV
 ms:List Unit
 n:Int
 stamps:List Int
 last:AccV
structure WaitV where
 child:Int
 worker:Int
 settled:Bool
 level:Int
structure InhV where
 levels:List Int
 finished:List Bool
 waits:Int→Option WaitV
structure W30 where
 open_:Bool
 settled:Bool
 child:Int
 worker:Int
 level:Int
structure S30 where
 level:List Int
 done:List Bool
 waits:List W30
def TR:Nat→Type
 | 0 =>Int
 | 1 =>Int
 | 2 =>Ev
 | 3 =>Ins
 | 4 =>Sub
 | 5 =>EntV
 | 6 =>St
 | 7 =>RecV
 | 8 =>FrV
 | 9 =>MemV
 | 10 =>ResV
 | 11 =>MaV
 | 12 =>EnvV
 | 13 =>Cfg
 | 14 =>QV
 | 15 =>MaV
 | 16 =>EngV
 | 17 =>Int
 | 18 =>List Ins
 | 19 =>CodV
 | 20 =>Cfg
 | 21 =>FgV
 | 22 =>List Int
 | 23 =>OutV
 | 24 =>LayV
 | 25 =>ClkV
 | 26 =>RecP
 | 27 =>EnvP
 | 28 =>MV
 | 30 =>ClientV MV
 | 31 =>WorkerV MV
 | 32 =>SleepV
 | 33 =>RunV MV
 | 34 =>AttemptV
 | 35 =>AllocV
 | 36 =>InsertV
 | 37 =>ReleaseV
 | 38 =>WakeV
 | 39 =>TakeV MV
 | 40 =>SweepV MV
 | 41 =>DrainV MV
 | 42 =>StealV
 | 43 =>ResetV
 | 44 =>LPopV MV
 | 45 =>ClaimV
 | 46 =>ProbeV
 | 47 =>LPushV MV
 | 48 =>WalkV MV
 | 49 =>EnterV MV
 | 50 =>PublishV
 | 51 =>RemoveV
 | 52 =>OPopV
 | 53 =>OPushV
 | 54 =>SetV
 | 55 =>RaiseV
 | 56 =>(WorkerV MV)
 | 57 =>Unit
 | 58 =>EngP
 | 60 =>AccV
 | 64 =>Bool
 | 65 =>WaitV
 | 66 =>InhV
 | 67 =>W30
 | 68 =>S30
 | _ =>Unit
abbrev sI_:Sh:=.i .i64
abbrev sU_:Sh:=.i .u64
def shR:Nat→List Sh
 | 0 =>[sU_]
 | 1 =>[sI_]
 | 2 =>[sI_,sI_,sI_,sI_,sI_]
 | 3 =>[sI_,sI_,sI_]
 | 4 =>[sI_,sI_,sI_]
 | 5 =>[sI_,sI_]
 | 6 =>[sI_,sI_,sI_,sI_,sI_,sI_]
 | 7 =>[sI_,sI_,sI_,sI_,sI_,.ro 1,.b]
 | 8 =>[sI_,sI_,sI_,sI_,sI_,sI_,sI_,sI_,sI_,sI_,sI_,sI_,sI_,sU_,sU_,sU_,sU_,.ro 1]
 | 9 =>[.row 0,sI_,sI_,sU_,sU_,sI_]
 | 10 =>[.b,sI_,sI_]
 | 11 =>[.row 8,.b,sI_,sI_]
 | 12 =>[sI_,sI_,sI_,sI_,sI_,sI_,sI_,sI_,sI_,.rr 3,.ro 4,.row 0,sI_,sI_,sU_,sU_,sI_,sI_,sI_,.row 7,.row 2]
 | 13 =>[sI_,sI_,sI_,sI_,sI_,sI_,sI_,sI_,sI_,.rr 3,.ro 4]
 | 14 =>[sI_,sI_,sI_,sI_]
 | 15 =>[.own 11]
 | 16 =>[.own 12,.row 15,sI_,.row 1,sI_,sI_,sU_,sU_]
 | 17 =>[.i .u8]
 | 18 =>[.ro 3]
 | 19 =>[.ro 17,.ro 17,sI_,.b]
 | 20 =>[sI_,sI_,sI_,sI_,sI_,sI_,sI_,sI_,sI_,.row 18,.row 4]
 | 21 =>[sI_,sI_,sI_,sI_,sI_,sI_,sI_,sI_,sI_,sI_,sI_,sI_,sI_]
 | 22 =>[.ro 1]
 | 23 =>[.b,sI_,sI_]
 | 24 =>[sI_,sI_,sI_,sI_,sI_,sI_,sI_,sI_,sI_,sI_,sI_]
 | 25 =>[sI_,sI_]
 | 26 =>[sI_,sI_,sI_,sI_,sI_,.row 1,.b]
 | 27 =>[sI_,sI_,sI_,sI_,sI_,sI_,sI_,sI_,sI_,.rr 3,.ro 4,sI_,sI_,sI_,sI_,sI_,sI_,sI_,sI_,sI_,sI_,sI_,.own 9,.own 25,.row 26,.row 2]
 | 28 =>[.mach]
 | 30 =>[.ro 4,sI_,sI_,sI_,.mach,.b,sI_,.b]
 | 31 =>[sI_,sI_,sI_,.mach,sI_,sI_,sI_]
 | 32 =>[.b,sI_,sI_,sI_,sI_,sU_,sI_,sI_]
 | 33 =>[.b,sI_,sI_,sI_,.row 1,sI_,.mach,sI_,sI_,sI_,sI_]
 | 34 =>[.b,sI_,sI_,sI_,.b]
 | 35 =>[.b,sI_,sI_]
 | 36 =>[.b,sI_,sI_,sI_,sI_,sI_,sI_,sI_,sU_,sU_]
 | 37 =>[.b,sI_,sI_]
 | 38 =>[.b,sI_,sI_,sI_,sI_,sI_,sI_,sI_]
 | 39 =>[.b,sI_,sI_,sI_,.b,.mach]
 | 40 =>[.b,sI_,sI_,sI_,sI_,sI_,sU_,.mach]
 | 41 =>[.b,sI_,sI_,sI_,sI_,.mach,sI_,.b,sI_,sI_,sI_]
 | 42 =>[.b,sI_,sI_,sI_,sI_,sI_,sI_,sI_,sU_,sU_]
 | 43 =>[.b,sI_,sI_,sI_,sI_,sI_,sI_,sI_,sI_,sI_,sU_]
 | 44 =>[.b,sI_,sI_,sI_,sI_,sI_,.mach]
 | 45 =>[.b,sI_,sI_,sI_,sI_]
 | 46 =>[.b,sI_,sI_,sI_,.b,sI_,sI_,sU_,sU_,sU_,sU_,sU_,sU_,sU_,sU_,sU_,sU_,sU_,sU_,sU_,sU_,sU_,sU_]
 | 47 =>[.b,sI_,sI_,sI_,sI_,sI_,sI_,.mach]
 | 48 =>[.b,sI_,sI_,sI_,sI_,sI_,sI_,.mach]
 | 49 =>[.b,sI_,sI_,sI_,sI_,sI_,sI_,.mach]
 | 50 =>[.b,sI_,sI_,sI_,sI_,sI_]
 | 51 =>[.b,sI_,sI_,sI_,sI_,sI_,sI_,sI_,sU_,sU_,sU_]
 | 52 =>[.b,sI_,sI_,sI_,sI_,sI_,sI_,sI_,sU_,sU_]
 | 53 =>[.b,sI_,sI_,sI_,sI_,sI_,sI_,sI_,sI_,sU_]
 | 54 =>[.b,sI_,sI_,sI_,sI_]
 | 55 =>[.b,sI_,sI_,sI_,sI_,sI_,sI_,sU_]
 | 56 =>[.own 31]
 | 57 =>[.o]
 | 58 =>[.own 27,.row 56,.own 30,.row 57,sI_,.row 1,sI_,sI_,sU_,sU_]
 | 60 =>[sI_,sI_,sU_,sU_]
 | 64 =>[.b]
 | 65 =>[sI_,sI_,.b,sI_]
 | 66 =>[.row 1,.row 64,.mp 65 true]
 | 67 =>[.b,.b,sI_,sI_,sI_]
 | 68 =>[.row 1,.row 64,.row 67]
 | _ =>[]
def toR:(c:Nat)→TR c→HL TR MV (shR c)
 | 0 =>fun x =>(x,())
 | 1 =>fun x =>(x,())
 | 2 =>fun x =>(x.kind,x.worker,x.task,x.other,x.level,())
 | 3 =>fun x =>(x.op,x.a,x.b,())
 | 4 =>fun x =>(x.prog,x.level,x.deadline,())
 | 5 =>fun x =>(x.kind,x.value,())
 | 6 =>fun x =>(x.at_,x.ev.kind,x.ev.worker,x.ev.task,x.ev.other,x.ev.level,())
 | 7 =>fun x =>(x.prog,x.parent,x.pc,x.left,x.waiting,x.kids,x.started,())
 | 8 =>fun x =>(x.kind,x.line,x.q.top,x.q.bottom,x.q.ring,x.q.cap,x.a,x.b,x.d,x.i,x.j,x.n,x.t,x.u,x.v,x.w,x.x,x.l,())
 | 9 =>fun x =>(x.cells,x.last.kind,x.last.cell,x.last.old,x.last.new,x.count,())
 | 10 =>fun x =>(x.done,x.code,x.value,())
 | 11 =>fun x =>(x.f,x.over,x.code,x.value,())
 | 12 =>fun x =>(x.c.workers,x.c.levels,x.c.classes,x.c.tasks,x.c.deque,x.c.heap,x.c.batch,x.c.age,x.c.patience,x.c.progs,x.c.subs,x.m.cells,x.m.last.kind,x.m.last.cell,x.m.last.old,x.m.last.new,x.m.count,x.now,x.draw,x.recs,x.evs,())
 | 13 =>fun x =>(x.workers,x.levels,x.classes,x.tasks,x.deque,x.heap,x.batch,x.age,x.patience,x.progs,x.subs,())
 | 14 =>fun x =>(x.top,x.bottom,x.ring,x.cap,())
 | 15 =>fun x =>(x,())
 | 16 =>fun x =>(x.e,x.m,x.n,x.stamps,x.last.kind,x.last.cell,x.last.old,x.last.new,())
 | 17 =>fun x =>(x,())
 | 18 =>fun x =>(x,())
 | 19 =>fun x =>(x.inn,x.out,x.at_,x.bad,())
 | 20 =>fun x =>(x.workers,x.levels,x.classes,x.tasks,x.deque,x.heap,x.batch,x.age,x.patience,x.progs,x.subs,())
 | 21 =>fun x =>(x.acc,x.rej,x.spa,x.ref,x.sta,x.fin,x.ste,x.ski,x.boo,x.age,x.par,x.lat,x.wor,())
 | 22 =>fun x =>(x,())
 | 23 =>fun x =>(x.ended,x.code,x.value,())
 | 24 =>fun x =>(x.workers,x.levels,x.classes,x.tasks,x.deque,x.heap,x.sleepers,x.epochs,x.bitmaps,x.queues,x.table,())
 | 25 =>fun x =>(x.now,x.draw,())
 | 26 =>fun x =>(x.prog,x.parent,x.pc,x.left,x.waiting,x.kids,x.started,())
 | 27 =>fun x =>(x.c.workers,x.c.levels,x.c.classes,x.c.tasks,x.c.deque,x.c.heap,x.c.batch,x.c.age,x.c.patience,x.c.progs,x.c.subs,x.l.workers,x.l.levels,x.l.classes,x.l.tasks,x.l.deque,x.l.heap,x.l.sleepers,x.l.epochs,x.l.bitmaps,x.l.queues,x.l.table,x.m,x.k,x.recs,x.evs,())
 | 28 =>fun x =>(x,())
 | 30 =>fun x =>(x.subs,x.me,x.i,x.line,x.inside,x.fresh,x.id,x.accepted,())
 | 31 =>fun x =>(x.worker,x.cursor,x.line,x.inside,x.victim,x.level,x.x,())
 | 32 =>fun x =>(x.o.ended,x.o.code,x.o.value,x.worker,x.line,x.ep,x.v,x.since,())
 | 33 =>fun x =>(x.o.ended,x.o.code,x.o.value,x.worker,x.stack,x.line,x.inside,x.id,x.child,x.level,x.waiter,())
 | 34 =>fun x =>(x.o.ended,x.o.code,x.o.value,x.owner,x.once,())
 | 35 =>fun x =>(x.o.ended,x.o.code,x.o.value,())
 | 36 =>fun x =>(x.o.ended,x.o.code,x.o.value,x.deadline,x.task,x.line,x.n,x.i,x.k,x.x,())
 | 37 =>fun x =>(x.o.ended,x.o.code,x.o.value,())
 | 38 =>fun x =>(x.o.ended,x.o.code,x.o.value,x.me,x.level,x.line,x.j,x.v,())
 | 39 =>fun x =>(x.o.ended,x.o.code,x.o.value,x.worker,x.claiming,x.inside,())
 | 40 =>fun x =>(x.o.ended,x.o.code,x.o.value,x.worker,x.task,x.line,x.q,x.push,())
 | 41 =>fun x =>(x.o.ended,x.o.code,x.o.value,x.worker,x.line,x.inside,x.x,x.direct,x.p,x.last,x.count,())
 | 42 =>fun x =>(x.o.ended,x.o.code,x.o.value,x.q.top,x.q.bottom,x.q.ring,x.q.cap,x.line,x.t,x.value,())
 | 43 =>fun x =>(x.o.ended,x.o.code,x.o.value,x.cell,x.bit,x.q.top,x.q.bottom,x.q.ring,x.q.cap,x.line,x.b,())
 | 44 =>fun x =>(x.o.ended,x.o.code,x.o.value,x.worker,x.level,x.line,x.inside,())
 | 45 =>fun x =>(x.o.ended,x.o.code,x.o.value,x.worker,x.task,())
 | 46 =>fun x =>(x.o.ended,x.o.code,x.o.value,x.worker,x.begun,x.start,x.next,x.bm.b0,x.bm.b1,x.bm.b2,x.bm.b3,x.bm.b4,x.bm.b5,x.bm.b6,x.bm.b7,x.bm.b8,x.bm.b9,x.bm.b10,x.bm.b11,x.bm.b12,x.bm.b13,x.bm.b14,x.bm.b15,())
 | 47 =>fun x =>(x.o.ended,x.o.code,x.o.value,x.worker,x.level,x.value,x.line,x.inside,())
 | 48 =>fun x =>(x.o.ended,x.o.code,x.o.value,x.worker,x.task,x.level,x.line,x.inside,())
 | 49 =>fun x =>(x.o.ended,x.o.code,x.o.value,x.worker,x.task,x.level,x.line,x.push,())
 | 50 =>fun x =>(x.o.ended,x.o.code,x.o.value,x.task,x.level,x.line,())
 | 51 =>fun x =>(x.o.ended,x.o.code,x.o.value,x.worker,x.line,x.n,x.i,x.c,x.x,x.y,x.z,())
 | 52 =>fun x =>(x.o.ended,x.o.code,x.o.value,x.q.top,x.q.bottom,x.q.ring,x.q.cap,x.line,x.b,x.t,())
 | 53 =>fun x =>(x.o.ended,x.o.code,x.o.value,x.q.top,x.q.bottom,x.q.ring,x.q.cap,x.value,x.line,x.b,())
 | 54 =>fun x =>(x.o.ended,x.o.code,x.o.value,x.cell,x.bit,())
 | 55 =>fun x =>(x.o.ended,x.o.code,x.o.value,x.worker,x.task,x.level,x.line,x.q,())
 | 56 =>fun x =>(x,())
 | 57 =>fun x =>(x,())
 | 58 =>fun x =>(x.e,x.ws,x.cl,x.ms,x.n,x.stamps,x.last.kind,x.last.cell,x.last.old,x.last.new,())
 | 60 =>fun x =>(x.kind,x.cell,x.old,x.new,())
 | 64 =>fun x =>(x,())
 | 65 =>fun x =>(x.child,x.worker,x.settled,x.level,())
 | 66 =>fun x =>(x.levels,x.finished,x.waits,())
 | 67 =>fun x =>(x.open_,x.settled,x.child,x.worker,x.level,())
 | 68 =>fun x =>(x.level,x.done,x.waits,())
 | 29 =>fun _ =>()
 | 59 =>fun _ =>()
 | 61 =>fun _ =>()
 | 62 =>fun _ =>()
 | 63 =>fun _ =>()
 | _+69 =>fun _ =>()
def ofR:(c:Nat)→HL TR MV (shR c)→TR c
 | 0 =>fun p =>p.1
 | 1 =>fun p =>p.1
 | 2 =>fun ⟨a,b,c,d,e,_⟩ =>⟨a,b,c,d,e⟩
 | 3 =>fun ⟨a,b,c,_⟩ =>⟨a,b,c⟩
 | 4 =>fun ⟨a,b,c,_⟩ =>⟨a,b,c⟩
 | 5 =>fun ⟨a,b,_⟩ =>⟨a,b⟩
 | 6 =>fun ⟨z,a,b,c,d,e,_⟩ =>⟨z,⟨a,b,c,d,e⟩⟩
 | 7 =>fun ⟨a,b,c,d,e,f,g,_⟩ =>⟨a,b,c,d,e,f,g⟩
 | 8 =>fun ⟨a,b,q1,q2,q3,q4,c,d,e,f,g,h,i,j,k,l,m,n,_⟩ =>⟨a,b,⟨q1,q2,q3,q4⟩,c,d,e,f,g,h,i,j,k,l,m,n⟩
 | 9 =>fun ⟨a,b,c,d,e,f,_⟩ =>⟨a,⟨b,c,d,e⟩,f⟩
 | 10 =>fun ⟨a,b,c,_⟩ =>⟨a,b,c⟩
 | 11 =>fun ⟨a,b,c,d,_⟩ =>⟨a,b,c,d⟩
 | 12 =>fun ⟨a1,a2,a3,a4,a5,a6,a7,a8,a9,a10,a11,b1,b2,b3,b4,b5,b6,c,d,e,f,_⟩ =>⟨⟨a1,a2,a3,a4,a5,a6,a7,a8,a9,a10,a11⟩,⟨b1,⟨b2,b3,b4,b5⟩,b6⟩,c,d,e,f⟩
 | 13 =>fun ⟨a1,a2,a3,a4,a5,a6,a7,a8,a9,a10,a11,_⟩ =>⟨a1,a2,a3,a4,a5,a6,a7,a8,a9,a10,a11⟩
 | 14 =>fun ⟨a,b,c,d,_⟩ =>⟨a,b,c,d⟩
 | 15 =>fun p =>p.1
 | 16 =>fun ⟨a,b,c,d,l1,l2,l3,l4,_⟩ =>⟨a,b,c,d,⟨l1,l2,l3,l4⟩⟩
 | 17 =>fun p =>p.1
 | 18 =>fun p =>p.1
 | 19 =>fun ⟨a,b,c,d,_⟩ =>⟨a,b,c,d⟩
 | 20 =>fun ⟨a1,a2,a3,a4,a5,a6,a7,a8,a9,a10,a11,_⟩ =>⟨a1,a2,a3,a4,a5,a6,a7,a8,a9,a10,a11⟩
 | 21 =>fun ⟨a0,a1,a2,a3,a4,a5,a6,a7,a8,a9,a10,a11,a12,_⟩ =>⟨a0,a1,a2,a3,a4,a5,a6,a7,a8,a9,a10,a11,a12⟩
 | 22 =>fun p =>p.1
 | 23 =>fun ⟨a0,a1,a2,_⟩ =>⟨a0,a1,a2⟩
 | 24 =>fun ⟨a0,a1,a2,a3,a4,a5,a6,a7,a8,a9,a10,_⟩ =>⟨a0,a1,a2,a3,a4,a5,a6,a7,a8,a9,a10⟩
 | 25 =>fun ⟨a0,a1,_⟩ =>⟨a0,a1⟩
 | 26 =>fun ⟨a0,a1,a2,a3,a4,a5,a6,_⟩ =>⟨a0,a1,a2,a3,a4,a5,a6⟩
 | 27 =>fun ⟨a0,a1,a2,a3,a4,a5,a6,a7,a8,a9,a10,a11,a12,a13,a14,a15,a16,a17,a18,a19,a20,a21,a22,a23,a24,a25,_⟩ =>⟨⟨a0,a1,a2,a3,a4,a5,a6,a7,a8,a9,a10⟩,⟨a11,a12,a13,a14,a15,a16,a17,a18,a19,a20,a21⟩,a22,a23,a24,a25⟩
 | 28 =>fun p =>p.1
 | 30 =>fun ⟨a0,a1,a2,a3,a4,a5,a6,a7,_⟩ =>⟨a0,a1,a2,a3,a4,a5,a6,a7⟩
 | 31 =>fun ⟨a0,a1,a2,a3,a4,a5,a6,_⟩ =>⟨a0,a1,a2,a3,a4,a5,a6⟩
 | 32 =>fun ⟨a0,a1,a2,a3,a4,a5,a6,a7,_⟩ =>⟨⟨a0,a1,a2⟩,a3,a4,a5,a6,a7⟩
 | 33 =>fun ⟨a0,a1,a2,a3,a4,a5,a6,a7,a8,a9,a10,_⟩ =>⟨⟨a0,a1,a2⟩,a3,a4,a5,a6,a7,a8,a9,a10⟩
 | 34 =>fun ⟨a0,a1,a2,a3,a4,_⟩ =>⟨⟨a0,a1,a2⟩,a3,a4⟩
 | 35 =>fun ⟨a0,a1,a2,_⟩ =>⟨⟨a0,a1,a2⟩⟩
 | 36 =>fun ⟨a0,a1,a2,a3,a4,a5,a6,a7,a8,a9,_⟩ =>⟨⟨a0,a1,a2⟩,a3,a4,a5,a6,a7,a8,a9⟩
 | 37 =>fun ⟨a0,a1,a2,_⟩ =>⟨⟨a0,a1,a2⟩⟩
 | 38 =>fun ⟨a0,a1,a2,a3,a4,a5,a6,a7,_⟩ =>⟨⟨a0,a1,a2⟩,a3,a4,a5,a6,a7⟩
 | 39 =>fun ⟨a0,a1,a2,a3,a4,a5,_⟩ =>⟨⟨a0,a1,a2⟩,a3,a4,a5⟩
 | 40 =>fun ⟨a0,a1,a2,a3,a4,a5,a6,a7,_⟩ =>⟨⟨a0,a1,a2⟩,a3,a4,a5,a6,a7⟩
 | 41 =>fun ⟨a0,a1,a2,a3,a4,a5,a6,a7,a8,a9,a10,_⟩ =>⟨⟨a0,a1,a2⟩,a3,a4,a5,a6,a7,a8,a9,a10⟩
 | 42 =>fun ⟨a0,a1,a2,a3,a4,a5,a6,a7,a8,a9,_⟩ =>⟨⟨a0,a1,a2⟩,⟨a3,a4,a5,a6⟩,a7,a8,a9⟩
 | 43 =>fun ⟨a0,a1,a2,a3,a4,a5,a6,a7,a8,a9,a10,_⟩ =>⟨⟨a0,a1,a2⟩,a3,a4,⟨a5,a6,a7,a8⟩,a9,a10⟩
 | 44 =>fun ⟨a0,a1,a2,a3,a4,a5,a6,_⟩ =>⟨⟨a0,a1,a2⟩,a3,a4,a5,a6⟩
 | 45 =>fun ⟨a0,a1,a2,a3,a4,_⟩ =>⟨⟨a0,a1,a2⟩,a3,a4⟩
 | 46 =>fun ⟨a0,a1,a2,a3,a4,a5,a6,a7,a8,a9,a10,a11,a12,a13,a14,a15,a16,a17,a18,a19,a20,a21,a22,_⟩ =>⟨⟨a0,a1,a2⟩,a3,a4,a5,a6,⟨a7,a8,a9,a10,a11,a12,a13,a14,a15,a16,a17,a18,a19,a20,a21,a22⟩⟩
 | 47 =>fun ⟨a0,a1,a2,a3,a4,a5,a6,a7,_⟩ =>⟨⟨a0,a1,a2⟩,a3,a4,a5,a6,a7⟩
 | 48 =>fun ⟨a0,a1,a2,a3,a4,a5,a6,a7,_⟩ =>⟨⟨a0,a1,a2⟩,a3,a4,a5,a6,a7⟩
 | 49 =>fun ⟨a0,a1,a2,a3,a4,a5,a6,a7,_⟩ =>⟨⟨a0,a1,a2⟩,a3,a4,a5,a6,a7⟩
 | 50 =>fun ⟨a0,a1,a2,a3,a4,a5,_⟩ =>⟨⟨a0,a1,a2⟩,a3,a4,a5⟩
 | 51 =>fun ⟨a0,a1,a2,a3,a4,a5,a6,a7,a8,a9,a10,_⟩ =>⟨⟨a0,a1,a2⟩,a3,a4,a5,a6,a7,a8,a9,a10⟩
 | 52 =>fun ⟨a0,a1,a2,a3,a4,a5,a6,a7,a8,a9,_⟩ =>⟨⟨a0,a1,a2⟩,⟨a3,a4,a5,a6⟩,a7,a8,a9⟩
 | 53 =>fun ⟨a0,a1,a2,a3,a4,a5,a6,a7,a8,a9,_⟩ =>⟨⟨a0,a1,a2⟩,⟨a3,a4,a5,a6⟩,a7,a8,a9⟩
 | 54 =>fun ⟨a0,a1,a2,a3,a4,_⟩ =>⟨⟨a0,a1,a2⟩,a3,a4⟩
 | 55 =>fun ⟨a0,a1,a2,a3,a4,a5,a6,a7,_⟩ =>⟨⟨a0,a1,a2⟩,a3,a4,a5,a6,a7⟩
 | 56 =>fun p =>p.1
 | 57 =>fun p =>p.1
 | 58 =>fun ⟨a0,a1,a2,a3,a4,a5,a6,a7,a8,a9,_⟩ =>⟨a0,a1,a2,a3,a4,a5,⟨a6,a7,a8,a9⟩⟩
 | 60 =>fun ⟨a0,a1,a2,a3,_⟩ =>⟨a0,a1,a2,a3⟩
 | 64 =>fun p =>p.1
 | 65 =>fun ⟨a0,a1,a2,a3,_⟩ =>⟨a0,a1,a2,a3⟩
 | 66 =>fun ⟨a0,a1,a2,_⟩ =>⟨a0,a1,a2⟩
 | 67 =>fun ⟨a0,a1,a2,a3,a4,_⟩ =>⟨a0,a1,a2,a3,a4⟩
 | 68 =>fun ⟨a0,a1,a2,_⟩ =>⟨a0,a1,a2⟩
 | 29 =>fun _ =>()
 | 59 =>fun _ =>()
 | 61 =>fun _ =>()
 | 62 =>fun _ =>()
 | 63 =>fun _ =>()
 | _+69 =>fun _ =>()
def dfR:(c:Nat)→TR c
 | 0 =>(default:Int)
 | 1 =>(default:Int)
 | 2 =>(default:Ev)
 | 3 =>(default:Ins)
 | 4 =>(default:Sub)
 | 5 =>(default:EntV)
 | 6 =>⟨0,default⟩
 | 7 =>(default:RecV)
 | 8 =>(default:FrV)
 | 9 =>(default:MemV)
 | 10 =>(default:ResV)
 | 11 =>⟨[],false,0,0⟩
 | 12 =>⟨⟨0,0,0,0,0,0,0,0,0,[],[]⟩,default,0,0,[],[]⟩
 | 13 =>⟨0,0,0,0,0,0,0,0,0,[],[]⟩
 | 14 =>(default:QV)
 | 15 =>⟨[],false,0,0⟩
 | 16 =>⟨⟨⟨0,0,0,0,0,0,0,0,0,[],[]⟩,default,0,0,[],[]⟩,[],0,[],default⟩
 | 17 =>(default:Int)
 | 18 =>[]
 | 19 =>⟨[],[],0,false⟩
 | 20 =>⟨0,0,0,0,0,0,0,0,0,[],[]⟩
 | 21 =>⟨0,0,0,0,0,0,0,0,0,0,0,0,0⟩
 | 22 =>[]
 | 23 =>⟨false,0,0⟩
 | 24 =>⟨0,0,0,0,0,0,0,0,0,0,0⟩
 | 25 =>⟨0,0⟩
 | 26 =>⟨0,0,0,0,0,[],false⟩
 | 27 =>⟨⟨0,0,0,0,0,0,0,0,0,[],[]⟩,⟨0,0,0,0,0,0,0,0,0,0,0⟩,default,⟨0,0⟩,[],[]⟩
 | 28 =>MV.nil
 | 30 =>⟨[],0,0,0,.nil,false,0,false⟩
 | 31 =>⟨0,0,0,.nil,0,0,0⟩
 | 32 =>⟨⟨false,0,0⟩,0,0,0,0,0⟩
 | 33 =>⟨⟨false,0,0⟩,0,[],0,.nil,0,0,0,0⟩
 | 34 =>⟨⟨false,0,0⟩,0,false⟩
 | 35 =>⟨⟨false,0,0⟩⟩
 | 36 =>⟨⟨false,0,0⟩,0,0,0,0,0,0,0⟩
 | 37 =>⟨⟨false,0,0⟩⟩
 | 38 =>⟨⟨false,0,0⟩,0,0,0,0,0⟩
 | 39 =>⟨⟨false,0,0⟩,0,false,.nil⟩
 | 40 =>⟨⟨false,0,0⟩,0,0,0,0,.nil⟩
 | 41 =>⟨⟨false,0,0⟩,0,0,.nil,0,false,0,0,0⟩
 | 42 =>⟨⟨false,0,0⟩,⟨0,0,0,0⟩,0,0,0⟩
 | 43 =>⟨⟨false,0,0⟩,0,0,⟨0,0,0,0⟩,0,0⟩
 | 44 =>⟨⟨false,0,0⟩,0,0,0,.nil⟩
 | 45 =>⟨⟨false,0,0⟩,0,0⟩
 | 46 =>⟨⟨false,0,0⟩,0,false,0,0,⟨0,0,0,0,0,0,0,0,0,0,0,0,0,0,0,0⟩⟩
 | 47 =>⟨⟨false,0,0⟩,0,0,0,0,.nil⟩
 | 48 =>⟨⟨false,0,0⟩,0,0,0,0,.nil⟩
 | 49 =>⟨⟨false,0,0⟩,0,0,0,0,.nil⟩
 | 50 =>⟨⟨false,0,0⟩,0,0,0⟩
 | 51 =>⟨⟨false,0,0⟩,0,0,0,0,0,0,0,0⟩
 | 52 =>⟨⟨false,0,0⟩,⟨0,0,0,0⟩,0,0,0⟩
 | 53 =>⟨⟨false,0,0⟩,⟨0,0,0,0⟩,0,0,0⟩
 | 54 =>⟨⟨false,0,0⟩,0,0⟩
 | 55 =>⟨⟨false,0,0⟩,0,0,0,0,0⟩
 | 56 =>⟨0,0,0,.nil,0,0,0⟩
 | 57 =>()
 | 58 =>⟨(dfR 27),[],(dfR 30),[],0,[],⟨0,0,0,0⟩⟩
 | 60 =>⟨0,0,0,0⟩
 | 64 =>false
 | 65 =>⟨0,0,false,0⟩
 | 66 =>⟨[],[],(fun _ =>none)⟩
 | 67 =>⟨false,false,0,0,0⟩
 | 68 =>⟨[],[],[]⟩
 | 29 =>()
 | 59 =>()
 | 61 =>()
 | 62 =>()
 | 63 =>()
 | _+69 =>()
abbrev ahf (xs:List Int) (i:Int):Int:=atL (dfR 0:TR 0) xs i
abbrev ady (xs:List Int) (i:Int):Int:=atL (dfR 1:TR 1) xs i
abbrev at4 (xs:List Ev) (i:Int):Ev:=atL (dfR 2:TR 2) xs i
abbrev acl (xs:List Ins) (i:Int):Ins:=atL (dfR 3:TR 3) xs i
abbrev abH (xs:List Sub) (i:Int):Sub:=atL (dfR 4:TR 4) xs i
abbrev asy (xs:List EntV) (i:Int):EntV:=atL (dfR 5:TR 5) xs i
abbrev azk (xs:List St) (i:Int):St:=atL (dfR 6:TR 6) xs i
abbrev aj4 (xs:List Int) (i:Int):Int:=atL (dfR 17:TR 17) xs i
abbrev aB1 (xs:List (List Ins)) (i:Int):List Ins:=atL (dfR 18:TR 18) xs i
abbrev anD (xs:List Bool) (i:Int):Bool:=atL (dfR 64:TR 64) xs i
abbrev aab (xs:List RecP) (i:Int):RecP:=atL (dfR 26:TR 26) xs i
abbrev aLp (xs:List MV) (i:Int):MV:=atL (dfR 28:TR 28) xs i
theorem aFr:∀ c p,toR c (ofR c p)=p
 | 0,_ =>rfl
 | 1,_ =>rfl
 | 2,_ =>rfl
 | 3,_ =>rfl
 | 4,_ =>rfl
 | 5,_ =>rfl
 | 6,_ =>rfl
 | 7,_ =>rfl
 | 8,_ =>rfl
 | 9,_ =>rfl
 | 10,_ =>rfl
 | 11,_ =>rfl
 | 12,_ =>rfl
 | 13,_ =>rfl
 | 14,_ =>rfl
 | 15,_ =>rfl
 | 16,_ =>rfl
 | 17,_ =>rfl
 | 18,_ =>rfl
 | 19,_ =>rfl
 | 20,_ =>rfl
 | 21,_ =>rfl
 | 22,_ =>rfl
 | 23,_ =>rfl
 | 24,_ =>rfl
 | 25,_ =>rfl
 | 26,_ =>rfl
 | 27,_ =>rfl
 | 28,_ =>rfl
 | 30,_ =>rfl
 | 31,_ =>rfl
 | 32,_ =>rfl
 | 33,_ =>rfl
 | 34,_ =>rfl
 | 35,_ =>rfl
 | 36,_ =>rfl
 | 37,_ =>rfl
 | 38,_ =>rfl
 | 39,_ =>rfl
 | 40,_ =>rfl
 | 41,_ =>rfl
 | 42,_ =>rfl
 | 43,_ =>rfl
 | 44,_ =>rfl
 | 45,_ =>rfl
 | 46,_ =>rfl
 | 47,_ =>rfl
 | 48,_ =>rfl
 | 49,_ =>rfl
 | 50,_ =>rfl
 | 51,_ =>rfl
 | 52,_ =>rfl
 | 53,_ =>rfl
 | 54,_ =>rfl
 | 55,_ =>rfl
 | 56,_ =>rfl
 | 57,_ =>rfl
 | 58,_ =>rfl
 | 60,_ =>rfl
 | 64,_ =>rfl
 | 65,_ =>rfl
 | 66,_ =>rfl
 | 67,_ =>rfl
 | 68,_ =>rfl
 | 29,_ =>rfl
 | 59,_ =>rfl
 | 61,_ =>rfl
 | 62,_ =>rfl
 | 63,_ =>rfl
 | _+69,_ =>rfl
def lsR:(c c':Nat)→Option (PLift (TR c'=List (TR c)))
 | 3,18 =>some ⟨rfl⟩
 | 1,22 =>some ⟨rfl⟩
 | _,_ =>none
theorem aJe:∀ c c' h,lsR c c'=some h→∀ x,vwP TR MV (shR c') (toR c' x)=[.ro c (h.down▸x)]:=by
 intro c c' h hl x
 unfold lsR at hl
 split at hl
 ·rfl
 ·rfl
 ·cases hl
def aLt:MV→Option (Σ c:Nat,TR c)
 | .nil =>none
 | .client x =>some ⟨30,x⟩
 | .worker x =>some ⟨31,x⟩
 | .sleep x =>some ⟨32,x⟩
 | .run x =>some ⟨33,x⟩
 | .attempt x =>some ⟨34,x⟩
 | .alloc x =>some ⟨35,x⟩
 | .insert x =>some ⟨36,x⟩
 | .release x =>some ⟨37,x⟩
 | .wake x =>some ⟨38,x⟩
 | .take x =>some ⟨39,x⟩
 | .sweep x =>some ⟨40,x⟩
 | .drain x =>some ⟨41,x⟩
 | .steal x =>some ⟨42,x⟩
 | .reset x =>some ⟨43,x⟩
 | .lpop x =>some ⟨44,x⟩
 | .claim x =>some ⟨45,x⟩
 | .probe x =>some ⟨46,x⟩
 | .lpush x =>some ⟨47,x⟩
 | .walk x =>some ⟨48,x⟩
 | .enter x =>some ⟨49,x⟩
 | .publish x =>some ⟨50,x⟩
 | .remove x =>some ⟨51,x⟩
 | .opop x =>some ⟨52,x⟩
 | .opush x =>some ⟨53,x⟩
 | .set x =>some ⟨54,x⟩
 | .raise x =>some ⟨55,x⟩
def mkR:(c:Nat)→TR c→Option MV
 | 30,x =>some (.client x)
 | 31,x =>some (.worker x)
 | 32,x =>some (.sleep x)
 | 33,x =>some (.run x)
 | 34,x =>some (.attempt x)
 | 35,x =>some (.alloc x)
 | 36,x =>some (.insert x)
 | 37,x =>some (.release x)
 | 38,x =>some (.wake x)
 | 39,x =>some (.take x)
 | 40,x =>some (.sweep x)
 | 41,x =>some (.drain x)
 | 42,x =>some (.steal x)
 | 43,x =>some (.reset x)
 | 44,x =>some (.lpop x)
 | 45,x =>some (.claim x)
 | 46,x =>some (.probe x)
 | 47,x =>some (.lpush x)
 | 48,x =>some (.walk x)
 | 49,x =>some (.enter x)
 | 50,x =>some (.publish x)
 | 51,x =>some (.remove x)
 | 52,x =>some (.opop x)
 | 53,x =>some (.opush x)
 | 54,x =>some (.set x)
 | 55,x =>some (.raise x)
 | _,_ =>none
theorem aI9:∀ c x m,mkR c x=some m→aLt m=some ⟨c,x⟩:=by
 intro c x m h
 unfold mkR at h
 split at h<;>first | (cases h; rfl) | cases h
def aKB (td:List (Nat×TypeId)) (c:Nat):TypeId:=(get td c).getD 0
def kdR (td:List (Nat×TypeId)) (t:TypeId):List (Nat×TypeId)→Option Nat
 | [] =>none
 | p::l =>match Nat.beq p.2 t && Nat.beq (aKB td p.1) t with
 | true =>some p.1
 | false =>kdR td t l
theorem aEW {td:List (Nat×TypeId)} {t:TypeId}:∀ {l:List (Nat×TypeId)} {c:Nat},kdR td t l=some c→aKB td c=t
 | [],_,h =>by cases h
 | p::l,c,h =>by
  unfold kdR at h
  split at h
  ·rename_i hb
   cases h
   simp only [Bool.and_eq_true] at hb
   exact Nat.eq_of_beq_eq_true hb.2
  ·exact aEW h
def SR (tk:TypeId→Option Nat) (td:List (Nat×TypeId)):Shp:={ T:=TR,M:=MV,sh:=shR,to_:=toR,of:=ofR,ok:=aFr,df:=dfR,tid:=aKB td,tk:=tk,spl:=aLt,nilM:=.nil,nilM_ok:=rfl,mkM:=mkR,mkM_ok:=aI9,kd:=fun t =>kdR td t td,kd_ok:=fun _ _ h =>aEW h,ls:=lsR,ls_ok:=(fun c c' h e x =>Or.inl (aJe c c' h e x)) }
end
section
open Go Go.RowKit
set_option maxRecDepth 100000
def tkR:TypeId→Option Nat:=fun t =>get [(3,1),(4,64),(5,17),(23,22),(28,13),(48,0),(53,2),(57,21),(66,5),(76,6),(78,24),(83,27),(89,60),(101,68),(118,19),(119,18),(121,3),(123,4),(133,66),(136,9),(139,65),(144,67),(150,31),(153,30),(160,26),(168,23),(170,32),(177,25),(206,34),(209,35),(212,36),(214,37),(217,38),(226,14),(231,39),(234,40),(237,41),(240,42),(243,43),(247,33),(250,44),(253,45),(257,46),(273,47),(276,51),(288,48),(291,49),(294,50),(297,52),(302,53),(305,54),(310,55),(1000087,28)] t
def tdR:List (Nat×TypeId):=[(30,86),(31,110),(32,165),(34,204),(35,207),(36,210),(37,213),(38,215),(39,229),(40,232),(41,235),(42,238),(43,241),(33,244),(44,248),(45,251),(46,254),(47,271),(51,274),(48,286),(49,289),(50,292),(52,295),(53,300),(54,303),(55,308)]
abbrev SR1:=SR tkR tdR
theorem aah:Tryz.prog.follows .mixedOrders=true:=by kernel_rfl
def ake:ByteArray:=⟨#[0,1,2,2,3,3,3,3,4,4,4,4,4,4,4,4,5,5,5,5,5,5,5,5,5,5,5,5,5,5,5,5,6,6,6,6,6,6,6,6,6,6,6,6,6,6,6,6,6,6,6,6,6,6,6,6,6,6,6,6,6,6,6,6,7,7,7,7,7,7,7,7,7,7,7,7,7,7,7,7,7,7,7,7,7,7,7,7,7,7,7,7,7,7,7,7,7,7,7,7,7,7,7,7,7,7,7,7,7,7,7,7,7,7,7,7,7,7,7,7,7,7,7,7,7,7,7,7,8,8,8,8,8,8,8,8,8,8,8,8,8,8,8,8,8,8,8,8,8,8,8,8,8,8,8,8,8,8,8,8,8,8,8,8,8,8,8,8,8,8,8,8,8,8,8,8,8,8,8,8,8,8,8,8,8,8,8,8,8,8,8,8,8,8,8,8,8,8,8,8,8,8,8,8,8,8,8,8,8,8,8,8,8,8,8,8,8,8,8,8,8,8,8,8,8,8,8,8,8,8,8,8,8,8,8,8,8,8,8,8,8,8,8,8,8,8,8,8,8,8,8,8,8,8,8,8]⟩
def tlI (l:List Int):Int:=wi (((l.length:Nat):Int)-1)
noncomputable def tpI (l:List Int):Int:=ady l (wi (((l.length:Nat):Int)-1))
end
section
open Go Go.RowKit
section
variable {B:Nat} {w w':World} {L:List aad} {A:Option Addr} {n cap sz:Nat} {xs:List Value} {el:TypeId}
theorem al3 (s:Sat B w L) (hb:Below w.heap.size w w') (hB:B≤w.heap.size) (ho:w'.ownsRow w.heap.size el sz (.slice A n cap) n xs):Sat B w' (afQ A n cap sz xs::L):=by
 obtain ⟨hl,ho⟩:=ho
 rcases ho with ⟨e,hn⟩ | ⟨g,cap',cur,e,hg,hh,h1,h2,h3,h4⟩
 ·injection e with e1 e2 e3
  subst e1 e2 e3
  have hx:xs=[]:=List.length_eq_zero_iff.1 (by rw [hl]; simp)
  subst hx
  exact (s.below hb).imp (atO sz)
 ·injection e with e1 e2 e3
  subst e1 e3
  obtain ⟨h,H,hs⟩:=s.below hb
  obtain ⟨h',H',hs'⟩:=s
  refine ⟨adr (fun b o =>if b=g∧o<cur.size then (cur[o]?).map Item.cell else none) h',?_,_,h',?_,rfl,?_,hs'⟩
  ·intro b o x hx
   unfold adr at hx
   by_cases hc:b=g∧o<cur.size
   ·simp only [if_pos hc] at hx
    obtain ⟨rfl,ho⟩:=hc
    rw [Array.getElem?_eq_getElem ho] at hx
    obtain rfl:=Option.some.inj hx
    refine ⟨.inl (by omega),?_,?_⟩
    ·unfold World.cell?; rw [hh]; simp [ho]
    ·unfold World.frozen?; simp [hh]
   ·simp only [if_neg hc] at hx
    obtain ⟨q1,q2⟩:=H' b o x hx
    exact ⟨q1,q2.same (hb.block _ q2.lt)⟩
  ·intro b o
   by_cases hc:b=g∧o<cur.size
   ·refine .inr (.inl ?_)
    cases hv:h' b o with
    | none =>rfl
    | some x =>have:=(H' b o x hv).2.lt; omega
   ·exact .inl (if_neg hc)
  ·refine ⟨hl,h1,h2,.inr ⟨g,0,cur.toList.drop (n*sz),rfl,?_,?_⟩⟩
   ·rw [List.length_drop,Array.length_toList,h3,Nat.sub_mul]
   ·rw [← h4,List.take_append_drop]
    intro i v hi
    rw [Array.getElem?_toList] at hi
    have hlt:=(Array.getElem?_eq_some_iff.1 hi).1
    show (if g=g∧0+i<cur.size then (cur[0+i]?).map Item.cell else none)=some (.cell v)
    rw [Nat.zero_add,if_pos ⟨rfl,hlt⟩,hi]; rfl
end
section
variable {α:Type} {enc:α→List Value} {sz B:Nat} {w:World} {A:Option Addr} {c:Nat} {xs:List α} {L:List aad}
theorem aIk (hz:0<sz) (henc:∀ x,(enc x).length=sz) (hS:Sl enc sz w B A xs) (hc:xs.length≤c) (s:Sat B w L):Sat B w (roS enc sz A c xs::L):=by
 obtain ⟨h,H,hs⟩:=s
 refine ⟨adr (fun b o =>if b<B then (w.cell? ⟨b,o,none⟩).map .look else none) h,?_,_,h,?_,rfl,?_,hs⟩
 ·intro b o x hx
  unfold adr at hx
  by_cases hb:b<B
  ·simp only [if_pos hb] at hx
   cases hv:w.cell? ⟨b,o,none⟩ with
   | none =>rw [hv] at hx; exact H b o x hx
   | some v =>
    rw [hv] at hx
    obtain rfl:=Option.some.inj hx
    exact ⟨.inr trivial,hv⟩
  ·simp only [if_neg hb] at hx
   exact H b o x hx
 ·intro b o
  by_cases hb:b<B
  ·simp only [if_pos hb]
   cases hv:w.cell? ⟨b,o,none⟩ with
   | none =>exact .inl rfl
   | some v =>
    cases hh:h b o with
    | none =>exact .inr (.inl rfl)
    | some y =>
     obtain ⟨h1,h2⟩:=H b o y hh
     cases y with
     | cell v' =>exact absurd (h1.resolve_right id) (by omega)
     | obj v' =>exact absurd (h1.resolve_right id) (by omega)
     | look v' =>
      have h3:w.cell? ⟨b,o,none⟩=some v':=h2
      rw [hv] at h3
      obtain rfl:=Option.some.inj h3
      exact .inr (.inr ⟨v,rfl,rfl⟩)
  ·simp only [if_neg hb]; exact .inl rfl
 ·refine ⟨fun b o =>if b<B then (w.cell? ⟨b,o,none⟩).map .look else none,fun b o x hx =>⟨?_,hx⟩,fun u hu =>⟨⟨hS.1,fun hne =>?_⟩,hc⟩⟩
  ·by_cases hb:b<B
   ·simp only [if_pos hb] at hx
    cases hv:w.cell? ⟨b,o,none⟩ with
    | none =>rw [hv] at hx; cases hx
    | some v =>rw [hv] at hx; exact ⟨v,(Option.some.inj hx).symm⟩
   ·simp only [if_neg hb] at hx; cases hx
  ·obtain ⟨b,o,hA,hb,hcell⟩:=hS.2 hne
   have key:∀ (i:Nat) x,xs[i]?=some x→∀ (j:Nat) v,(enc x)[j]?=some v→u.cell? ⟨b,o+i*sz+j,none⟩=some v:=fun i x hx j v hv =>by
    have h1:=hcell i x hx j v hv
    exact hu b (o+i*sz+j) (.look v) (by simp only [if_pos hb,h1]; rfl)
   refine ⟨b,o,hA,?_,key⟩
   cases xs with
   | nil =>exact absurd rfl hne
   | cons x xs =>
    cases hx:enc x with
    | nil =>have:=henc x; rw [hx] at this; simp at this; omega
    | cons y ys =>exact asl (key 0 x rfl 0 y (by rw [hx]; rfl))
end
section
variable {S:Shp} {B:Nat} {w:World} {L:List aad} {v:Value}
theorem amT {f:Fl S.T S.M} {p:aad} (h0:∀ h,pcW S.kt (fun _ _ _ _ =>False) (fun _ _ _ _ _ =>False) f v h→p h) (h1:∀ n h,pcW S.kt (obW S.kt (pcN S.kt n)) (rwW S.kt (pcN S.kt n)) f v h→p h):∀ h,pcS S.kt f v h→p h:=fun h ⟨n,hn⟩ =>by
 cases n with
 | zero =>exact h0 h hn
 | succ n =>exact h1 n h hn
theorem aKE {k:IntKind} {x:Int} (s:Sat B w (pcS S.kt (.i k x) v::L)):v=.int k x∧Sat B w L:=by
 have s1:Sat B w (aph (v=.int k x)::L):=abl (amT (f:=.i k x) (fun _ h =>h) fun _ _ h =>h) s
 obtain ⟨h,H,k1,k2,a,e,h1,h2⟩:=s1
 exact ⟨h1,s.drop⟩
theorem aEA {c:Nat} {xs:List (S.T c)} (s:Sat B w (pcS S.kt (.ro c xs) v::L)):∃ A cap,v=.slice A xs.length cap∧Sl (afF S.kt c) (S.kt.sz c) w w.heap.size A xs:=by
 have s1:Sat B w ((fun h =>∃ A cap,v=.slice A xs.length cap∧roS (afF S.kt c) (S.kt.sz c) A cap xs h)::L):=abl (amT (f:=.ro c xs) (fun _ h =>h) fun _ _ h =>h) s
 obtain ⟨h,H,k1,k2,a,e,⟨A,cap,e1,h1⟩,h2⟩:=s1
 have s2:Sat B w (roS (afF S.kt c) (S.kt.sz c) A cap xs::L):=⟨h,H,k1,k2,a,e,h1,h2⟩
 exact ⟨A,cap,e1,(auF s2 List.mem_cons_self).1⟩
theorem aIj {c:Nat} {xss:List (List (S.T c))} (s:Sat B w (pcS S.kt (.rr c xss) v::L)):∃ A cap,v=.slice A xss.length cap∧xss.length≤9223372036854775807∧∃ ps:List (Option Addr×Nat),
  ∀ (i:Nat) xs,xss[i]?=some xs→∃ a,ps[i]?=some a∧(Sl (afF S.kt c) (S.kt.sz c) w w.heap.size a.1 xs∧xs.length≤a.2)∧∃ b o,A=some ⟨b,o,none⟩∧b<w.heap.size∧w.cell? ⟨b,o+i,none⟩=some (.slice a.1 xs.length a.2):=by
 have s1:Sat B w ((fun h =>∃ A cap,v=.slice A xss.length cap∧rrS (afF S.kt c) (S.kt.sz c) A cap xss h)::L):=abl (amT (f:=.rr c xss) (fun _ h =>h) fun _ _ h =>h) s
 obtain ⟨h,H,k1,k2,a,e,⟨A,cap,e1,ps,h1⟩,h2⟩:=s1
 have s2:Sat B w (afN _::L):=⟨h,H,k1,k2,a,e,h1,h2⟩
 have h3:=am7 s2 List.mem_cons_self
 exact ⟨A,cap,e1,h3.1.1,ps,h3.2⟩
theorem azT {f:Fl S.T S.M} {fs:List (Fl S.T S.M)} {us:List Value} (s:Sat B w (fsS (pcS S.kt) (f::fs) us++L)):∃ u us',us=u::us'∧Sat B w (pcS S.kt f u::(fsS (pcS S.kt) fs us'++L)):=by
 cases us with
 | nil =>exact aaP s
 | cons u us' =>exact ⟨u,us',rfl,s⟩
theorem aFW {us:List Value} (s:Sat B w (fsS (pcS S.kt) [] us++L)):us=[]∧Sat B w L:=by
 cases us with
 | nil =>exact ⟨rfl,s⟩
 | cons u us' =>exact aaP s
theorem amB {k:IntKind} {x:Int} {fs:List (Fl S.T S.M)} {us:List Value} (s:Sat B w (fsS (pcS S.kt) (.i k x::fs) us++L)):∃ us',us=.int k x::us'∧Sat B w (fsS (pcS S.kt) fs us'++L):=by
 obtain ⟨u,us',e,s1⟩:=azT s
 obtain ⟨e2,s2⟩:=aKE s1
 subst e2
 exact ⟨us',e,s2⟩
def awq:List (Fl S.T S.M)→Bool
 | [] =>true
 | .i ..::l =>awq l
 | .b ..::l =>awq l
 | _ =>false
theorem anS:∀ (fs:List (Fl S.T S.M)) (h:Hp),awq fs=true→ab1 (fsS (pcS S.kt) fs (fs.map flV)) h
 | [],_,_ =>trivial
 | .i k x::l,h,hp =>⟨fun _ _ =>none,h,fun _ _ =>.inl rfl,by funext a b; rfl,⟨0,rfl⟩,anS l h hp⟩
 | .b x::l,h,hp =>⟨fun _ _ =>none,h,fun _ _ =>.inl rfl,by funext a b; rfl,⟨0,rfl⟩,anS l h hp⟩
theorem aIl {k:IntKind} {x:Int} (s:Sat B w L):Sat B w (pcS S.kt (.i k x) (.int k x)::L):=abn s fun _ =>⟨0,rfl⟩
end
section
variable {S:Shp} {B:Nat} {w:World} {L:List aad}
theorem auB {c:Nat} (hp:∀ x,awq (S.kt.vw c x)=true):∀ (xs:List (S.T c)) (h:Hp),ab1 (acB S.kt (pcS S.kt) c xs (xs.map (afF S.kt c))) h
 | [],_ =>trivial
 | x::xs,h =>aan.2 ⟨fun _ _ =>none,h,fun _ _ =>.inl rfl,by funext a b; rfl,anS _ _ (hp x),auB hp xs h⟩
theorem amA {c cap:Nat} {A:Option Addr} {xs:List (S.T c)} (hp:∀ x,awq (S.kt.vw c x)=true) (s:Sat B w (afQ A xs.length cap (S.kt.sz c) (xs.flatMap (afF S.kt c))::L)):Sat B w (pcS S.kt (.row c xs) (.slice A xs.length cap)::L):=by
 refine abl (fun k hk =>aaJ.2 (show pcW S.kt (obS S.kt) (rwS S.kt) (.row c xs) _ k from ⟨A,cap,rfl,adO.2 ⟨xs.map (afF S.kt c),?_⟩⟩)) s
 have e:(xs.map (afF S.kt c)).flatten=xs.flatMap (afF S.kt c):=by rw [List.flatMap_def]
 rw [e]
 exact ⟨k,fun _ _ =>none,fun _ _ =>.inr (.inl rfl),by funext a b; unfold adr; cases k a b<;>rfl,hk,auB hp xs _⟩
end
section
variable {B:Nat} {w:World} {L:List aad} {v:Value}
theorem aFX {c:Cfg} (s:Sat B w (aCz SR1 13 c v::L)):∃ p,v=ap5 c p∧aml w w.heap.size c p∧Sat B w L:=by
 obtain ⟨us,e,s0⟩:=awe s
 have s0':Sat B w (fsS (pcS SR1.kt) [.i .i64 c.workers,.i .i64 c.levels,.i .i64 c.classes,.i .i64 c.tasks,.i .i64 c.deque,.i .i64 c.heap,.i .i64 c.batch,.i .i64 c.age,.i .i64 c.patience,.rr 3 c.progs,.ro 4 c.subs] us++L):=s0
 obtain ⟨us1,rfl,s1⟩:=amB s0'
 obtain ⟨us2,rfl,s2⟩:=amB s1
 obtain ⟨us3,rfl,s3⟩:=amB s2
 obtain ⟨us4,rfl,s4⟩:=amB s3
 obtain ⟨us5,rfl,s5⟩:=amB s4
 obtain ⟨us6,rfl,s6⟩:=amB s5
 obtain ⟨us7,rfl,s7⟩:=amB s6
 obtain ⟨us8,rfl,s8⟩:=amB s7
 obtain ⟨us9,rfl,s9⟩:=amB s8
 obtain ⟨u10,us10,rfl,s10⟩:=azT s9
 obtain ⟨A,ca,rfl,hl,ps,hA⟩:=aIj s10
 obtain ⟨u11,us11,rfl,s11⟩:=azT s10.drop
 obtain ⟨A2,ca2,rfl,hA2⟩:=aEA s11
 obtain ⟨rfl,s12⟩:=aFW s11.drop
 refine ⟨⟨A,ca,A2,ca2⟩,e,⟨⟨hl,fun hne =>?_⟩,hA2⟩,s12⟩
 cases hp:c.progs with
 | nil =>exact absurd hp hne
 | cons x xs =>
  obtain ⟨a0,_,_,b,o,e1,hb,_⟩:=hA 0 x (by rw [hp]; rfl)
  refine ⟨b,o,e1,hb,fun i p hi =>?_⟩
  obtain ⟨a1,g1,g2,b',o',e2,hb',hc'⟩:=hA i p (by rw [hp]; exact hi)
  rw [e1] at e2
  cases e2
  exact ⟨a1.1,a1.2,hc',g2.1⟩
end
end
section
open Go.ChangeShapes Go.WideShapes Go.RowKit Go.Deep
theorem azG {w:World} {a:Addr} {v:Value} (h:w.cell? a=some v):a=⟨a.block,a.off,none⟩∧a.block<w.heap.size:=by
 unfold World.cell? at h
 split at h
 ·rename_i hb
  split at h
  ·cases h
  ·rename_i hs
   refine ⟨?_,?_⟩
   ·cases a with
    | mk b o s =>cases s with
     | none =>rfl
     | some k =>simp at hs
   ·rcases Nat.lt_or_ge a.block w.heap.size with h1 | h1
    ·exact h1
    ·rw [Array.getElem?_eq_none h1] at hb; cases hb
 ·cases h
theorem aEp (b o n:Nat):(⟨b,o,none⟩:Addr).add n=⟨b,o+n,none⟩:=by
 unfold Addr.add; split
 ·rename_i h; simp [h]
 ·rfl
theorem alT {α:Type} (Y:Nat→Option α):∀ len,(∀ i,i<len→∃ z,Y i=some z)→((List.range len).filterMap Y).length=len∧∀ i,i<len→((List.range len).filterMap Y)[i]?=Y i
 | 0,_ =>by simp
 | k+1,h =>by
  obtain ⟨z,hz⟩:=h k (by omega)
  have hk:=alT Y k (fun i hi =>h i (by omega))
  have e1:List.filterMap Y [k]=[z]:=by simp [hz]
  rw [List.range_succ,List.filterMap_append,e1]
  refine ⟨by simp [hk.1],fun i hi =>?_⟩
  rcases Nat.lt_or_ge i k with h1 | h1
  ·rw [List.getElem?_append_left (by rw [hk.1]; exact h1)]; exact hk.2 i h1
  ·have e:i=k:=by omega
   subst e
   rw [List.getElem?_append_right (by rw [hk.1]; omega),hk.1,hz]; simp
section
variable {H:Type} {enc:TypeId×Value→H} {P:Program} {w:World} {base:Nat} {spare:Nat→Bool} {held:Bool}
theorem azP {α:Type} {en:α→List Value} {sz:Nat} {Q:α→Prop} {t e:TypeId} {fuel:Nat} {cs:List Value} {x:DataW H×List MemPlace} (ht:P.underlying t=some (.slice e)) (hC:P.cellsOf e=sz) (hsz:0<sz)
  (hel:∀ n cs' d,DataW.trod enc P w base spare held n e cs'=some d→cs'.length=sz→∃ y:α,Q y∧cs'=en y) (h:DataW.trod enc P w base spare held fuel t cs=some x) :
  ∃ A cap xs,cs=[.slice A xs.length cap]∧Sl en sz w w.heap.size A xs∧(∀ y∈xs,Q y)∧xs.length≤cap:=by
 rcases open_slice ht h with ⟨h0,_⟩ | ⟨a,len,cap,m,n,D,Pl,hcs,hb,hl,hm,hmm,hx,hi⟩
 ·exact ⟨none,0,[],h0,Sl.nil,by simp,Nat.le_refl _⟩
 ·have hm0:len≤m:=by rw [hmm]; split<;>omega
  have hY:∀ i,∃ y:Option α,i<len→∃ z,y=some z∧Q z∧∀ j u,(en z)[j]?=some u→w.cell? (a.add (i*sz+j))=some u:=by
   intro i
   by_cases hil:i<len
   ·obtain ⟨cs',hc,ht'⟩:=hi i (by omega)
    rw [hC] at hc
    obtain ⟨_,hcl,hat⟩:=World.cells?_some hc
    obtain ⟨y,hq,rfl⟩:=hel n cs' _ ht' hcl
    refine ⟨some y,fun _ =>⟨y,rfl,hq,fun j u hu =>?_⟩⟩
    have hj:j<sz:=by
     rcases Nat.lt_or_ge j sz with h1 | h1
     ·exact h1
     ·rw [List.getElem?_eq_none (by omega)] at hu; cases hu
    rw [← Go.Deep.add_add,hat j hj,hu]
   ·exact ⟨none,fun h =>absurd h hil⟩
  obtain ⟨Y,hY⟩:=Classical.axiomOfChoice hY
  have hlen:=alT Y len (fun i hi =>(hY i hi).imp fun z h =>h.1)
  refine ⟨some a,cap,(List.range len).filterMap Y,by rw [hcs,hlen.1],⟨by rw [hlen.1]; simp only [maxLen] at hm; omega,fun hne =>?_⟩,fun y hy =>?_,by rw [hlen.1]; exact hl⟩
  ·have hpos:0<len:=by
    rw [← hlen.1]; exact List.length_pos_iff.2 hne
   obtain ⟨cs',hc,_⟩:=hi 0 (by omega)
   rw [hC] at hc
   obtain ⟨_,hcl,hat⟩:=World.cells?_some hc
   have h00:=hat 0 hsz
   rw [List.getElem?_eq_getElem (by omega)] at h00
   have hs:=azG h00
   have ea:(a.add (0*sz)).add 0=a:=by simp [Addr.add]
   rw [ea] at hs
   refine ⟨a.block,a.off,by rw [← hs.1],hs.2,fun i z hz j u hu =>?_⟩
   have hil:i<len:=by
    rcases Nat.lt_or_ge i len with h1 | h1
    ·exact h1
    ·rw [List.getElem?_eq_none (by rw [hlen.1]; exact h1)] at hz; cases hz
   obtain ⟨z',hz',_,hcell⟩:=hY i hil
   rw [hlen.2 i hil,hz'] at hz
   injection hz with hz
   subst hz
   have:=hcell j u hu
   rw [hs.1,aEp] at this
   rw [Nat.add_assoc]
   exact this
  ·obtain ⟨i,hi1,hi2⟩:=List.mem_filterMap.1 hy
   obtain ⟨z,hz,hq,_⟩:=hY i (List.mem_range.1 hi1)
   rw [hz] at hi2
   injection hi2 with hi2
   rw [← hi2]; exact hq
end
end
section
open Go.ChangeShapes Go.WideShapes Go.RowKit Go.Deep
set_option maxRecDepth 100000
theorem aEl:Tryz.prog.cellsOf 3=1:=by kernel_rfl
theorem aBS:Tryz.prog.cellsOf 5=1:=by kernel_rfl
theorem aH4 {z:Int} (h:(Lit.int .i64 z).wf=true):-9223372036854775808≤z∧z≤9223372036854775807:=by
 simp [Lit.wf,IntKind.min,IntKind.max,IntKind.bits,IntKind.signed] at h
 omega
section
variable {H:Type} {enc:TypeId×Value→H} {w:World} {base:Nat} {spare:Nat→Bool} {held:Bool}
theorem aDG (n:Nat) (cs:List Value) (d:DataW H×List MemPlace) (h:DataW.trod enc Tryz.prog w base spare held n 3 cs=some d) (_:cs.length=1):∃ y:Int,(-9223372036854775808≤y∧y≤9223372036854775807)∧cs=afF SR1.kt 1 y:=by
 obtain ⟨z,hz,_,hw⟩:=DataW.trod_int Tryz.underlying3 h
 exact ⟨z,aH4 hw,hz⟩
theorem aBW (n:Nat) (cs:List Value) (d:DataW H×List MemPlace) (h:DataW.trod enc Tryz.prog w base spare held n 5 cs=some d) (_:cs.length=1):∃ y:Int,(0≤y∧y≤255)∧cs=afF SR1.kt 17 y:=by
 obtain ⟨z,hz,_,hw⟩:=DataW.trod_int Tryz.underlying5 h
 simp [Lit.wf,IntKind.min,IntKind.max,IntKind.bits,IntKind.signed] at hw
 exact ⟨z,by omega,hz⟩
theorem auw {t e:TypeId} {r:Reach} {b0:Nat} {v:Value} {A:Option Addr} {n cap:Nat} (ht:Tryz.prog.underlying t=some (.slice e)) (hv:Value.okWide Tryz.prog w r b0 t v) (h1:v.cells.toList=[.slice A n cap]):v=.slice A n cap:=by
 obtain ⟨a,len,c,rfl⟩:=okWide_slice ht hv
 simp [Value.cells] at h1
 rw [h1.1,h1.2.1,h1.2.2]
theorem aIv {c:Nat} {l:List (SR1.T c)} {v:Value} {A:Option Addr} {cap:Nat} {L:List aad} (hz:0<SR1.kt.sz c) (henc:∀ x,(afF SR1.kt c x).length=SR1.kt.sz c) (hv:v=.slice A l.length cap) (hS:Sl (afF SR1.kt c) (SR1.kt.sz c) w w.heap.size A l) (hc:l.length≤cap) (s:Sat w.heap.size w L):Sat w.heap.size w (pcS SR1.kt (.ro c l) v::L) :=
 abl (fun h hr =>⟨0,A,cap,hv,hr⟩) (aIk hz henc hS hc s)
theorem ayB {v:Value} {d:DataW H} {p:List MemPlace} {r:Reach} {b0:Nat} (hv:Value.okWide Tryz.prog w r b0 22 v) (h:DataW.Trod enc Tryz.prog w base spare held 22 v d p):∃ l:List Int,(∀ x∈l,0≤x∧x≤255)∧∀ {L},Sat w.heap.size w L→Sat w.heap.size w (pcS SR1.kt (.ro 17 l) v::L):=by
 obtain ⟨fuel,hf⟩:=h
 obtain ⟨A,cap,xs,h1,h2,h3,h4⟩:=azP Tryz.underlying22 aBS (by decide) aBW hf
 exact ⟨xs,h3,fun s =>aIv (c:=17) (by decide) (fun _ =>rfl) (auw Tryz.underlying22 hv h1) h2 h4 s⟩
theorem aGX {v:Value} {d:DataW H} {p:List MemPlace} {r:Reach} {b0:Nat} (hv:Value.okWide Tryz.prog w r b0 23 v) (h:DataW.Trod enc Tryz.prog w base spare held 23 v d p):∃ l:List Int,(∀ x∈l,-9223372036854775808≤x∧x≤9223372036854775807)∧∀ {L},Sat w.heap.size w L→Sat w.heap.size w (pcS SR1.kt (.ro 1 l) v::L):=by
 obtain ⟨fuel,hf⟩:=h
 obtain ⟨A,cap,xs,h1,h2,h3,h4⟩:=azP Tryz.underlying23 aEl (by decide) aDG hf
 exact ⟨xs,h3,fun s =>aIv (c:=1) (by decide) (fun _ =>rfl) (auw Tryz.underlying23 hv h1) h2 h4 s⟩
end
theorem ani [Tb] {f:FuncId} {ps:List Pk} {spec:amk SR1 ps→Option (amn SR1 [.sh .b]×ak7 SR1 ps)} {P:Program} (hf:Nat.blt f agX=true) (h:aCi SR1 P f ps [.sh .b] spec) {x:amk SR1 ps} {o:ak7 SR1 ps} (hx:spec x=some ((true,()),o)) {vs:List Value} {w:World} (hg:aHV w.heap.size w) (s:Sat w.heap.size w (arP SR1 ps x vs++[fun _ =>True])) :
  Calls P f vs.toArray w fun e w' =>e=.returned (.bool true)∧Below w.heap.size w w':=by
 have h0:=h x _ hx w.heap.size w hg vs (fun _ =>True) w ⟨Below.refl _ _,Nat.le_refl _,s⟩
 rw [aeA hf] at h0
 refine h0.mono fun e w' ⟨us,he,hb,_,s'⟩ =>?_
 rcases us with _ | ⟨u,_ | ⟨u2,us⟩⟩
 ·exact aaP s'
 ·have s2:Sat w.heap.size w' (aph (u=.bool true)::_):=abl (amT (f:=.b true) (fun _ h =>h) fun _ _ h =>h) s'
  obtain ⟨_,_,_,_,_,_,h1,_⟩:=s2
  subst h1
  exact ⟨he,hb⟩
 ·exact aaP s'.drop
end
section
open Go
set_option maxRecDepth 100000
def aBe (P:Program):Bool:=match ((begin P (fun _ _ =>0) default).world.heap[0]?).bind Obj.row? with
 | none =>false
 | some (z,t) =>Nat.beq z.size 64 && P.buildable t && (match P.cellTypes P.depth t with
  | none =>false
  | some ts =>ts.all fun u =>match P.underlying u with
   | some (.int .u8) =>true
   | _ =>false)
theorem aBd:aBe Tryz.prog=true:=by kernel_rfl
theorem aG4 {P:Program} {w:World} (ht:aBe P=true) (hp:0<P.globals.size) (h:w.ShapedOpen P):∃ T:Tb,aHV w.heap.size w:=by
 unfold aBe at ht
 split at ht
 ·cases ht
 rename_i z t h0
 split at ht
 ·simp at ht
 rename_i ts hts
 simp only [Bool.and_eq_true,List.all_eq_true] at ht
 obtain ⟨⟨hz,hb⟩,ha⟩:=ht
 have hz:z.size=64:=Nat.eq_of_beq_eq_true hz
 obtain ⟨cs,hh,hs,hr⟩:=h.1 0 z t hp h0
 obtain ⟨ts',hts',_,hall⟩:=hr hb
 rw [hts] at hts'
 cases hts'
 have hc:∀ i:Nat,i<64→∃ n:Int,(0≤n∧n≤255)∧w.cell? ⟨0,i,none⟩=some (.int .u8 n):=fun i hi =>by
  have h1:i<cs.size:=by omega
  obtain ⟨u,hu,hok⟩:=hall i cs[i] (by simp [h1])
  have hm:=ha u (List.mem_of_getElem? hu)
  have hcell:w.cell? ⟨0,i,none⟩=some cs[i]:=by simp [World.cell?,hh,h1]
  rw [hcell]
  unfold Cell.ok at hok
  split at hm
  ·rename_i hu8
   rw [hu8] at hok
   cases hv:cs[i]<;>rw [hv] at hok<;>simp at hok
   case int k' n =>
    obtain ⟨rfl,hn⟩:=hok
    have hn:IntKind.u8.min≤n∧n≤IntKind.u8.max:=hn
    simp [IntKind.min,IntKind.max,IntKind.bits,IntKind.signed] at hn
    exact ⟨n,by omega,rfl⟩
  ·cases hm
 have hpos:0<w.heap.size:=by
  rcases Nat.eq_zero_or_pos w.heap.size with e | e
  ·rw [Array.getElem?_eq_none (by omega)] at hh; cases hh
  ·exact e
 classical
 refine ⟨⟨fun i =>if hi:i<64 then (hc i hi).choose else 0,fun i =>?_⟩,hpos,fun i hi =>?_⟩
 ·split
  ·rename_i hi; exact (hc i hi).choose_spec.1
  ·omega
 ·show w.cell? _=some (.int .u8 (if hi:i<64 then (hc i hi).choose else 0))
  rw [dif_pos hi]
  exact (hc i hi).choose_spec.2
end
section
open Go.RowKit
def apy (x:Option Addr×Nat×Nat):List Value:=[.slice x.1 x.2.1 x.2.2]
theorem amN {w:World} {base:Nat} {e:TypeId} {size:Nat} {v:Value} {n:Nat} {xs:List Value} (h:w.ownsRow base e size v n xs):∃ A cap,v=.slice A n cap:=by
 rcases h.2 with ⟨rfl,rfl⟩ | ⟨g,cap,cur,rfl,_⟩
 ·exact ⟨_,_,rfl⟩
 ·exact ⟨_,_,rfl⟩
theorem aGY:(Tryz.prog.info? 121).map (fun i =>(i.zero,i.size,i.bytes))=some (some (.agg #[.int .i64 0,.int .i64 0,.int .i64 0]),3,24):=by kernel_rfl
theorem aFx:(Tryz.prog.info? 123).map (fun i =>(i.zero,i.size,i.bytes))=some (some (.agg #[.int .i64 0,.int .i64 0,.int .i64 0]),3,24):=by kernel_rfl
theorem aF5:(Tryz.prog.info? 119).map (fun i =>(i.zero,i.size,i.bytes))=some (some (.slice none 0 0),1,24):=by kernel_rfl
theorem avt {α:Type} {enc:α→List Value} {sz:Nat} (henc:∀ x,(enc x).length=sz):∀ (xs:List α) (i:Nat) (x:α),xs[i]?=some x→∀ (j:Nat) u,(enc x)[j]?=some u→(xs.flatMap enc)[i*sz+j]?=some u
 | [],_,_,h,_,_,_ =>by simp at h
 | y::ys,0,x,h,j,u,hu =>by
  simp at h; subst h
  have hj:j<(enc y).length:=by
   rcases Nat.lt_or_ge j (enc y).length with h | h
   ·exact h
   ·rw [List.getElem?_eq_none h] at hu; cases hu
  rw [List.flatMap_cons,Nat.zero_mul,Nat.zero_add,List.getElem?_append_left hj]; exact hu
 | y::ys,i+1,x,h,j,u,hu =>by
  simp at h
  rw [List.flatMap_cons,List.getElem?_append_right (by rw [henc,Nat.succ_mul]; omega),henc,show (i+1)*sz+j-sz=i*sz+j from by rw [Nat.succ_mul]; omega]
  exact avt henc ys i x h j u hu
end
end Go.Proofs.YteapeojalliebaaGreat
