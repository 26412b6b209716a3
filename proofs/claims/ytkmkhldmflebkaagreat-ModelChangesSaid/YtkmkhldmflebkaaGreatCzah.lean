/- Evaluation by itself: calls by contracts. No program occurs here. Evaluation by itself: contracts in a row. No program occurs here. Evaluation by itself: methods of machines behind interfaces. No program occurs here. The reference's and the program's data as kinds. No program occurs here. The seat's kinds. A row that a call has made. No program occurs here. Evaluation by itself: slices that came in. No program occurs here. Contracts proved in another style,in the evaluator's words. No program occurs here. A configuration that came in. Walks: the checks of a configuration (config and its reference),function by function. Walks: the checks of a configuration's programs and submissions (config). The check of a configuration,in the evaluator's words. Walks: the check of a configuration (its reference),and whether it is small. The reference's check of a configuration,in the evaluator's words. What it means that an answer is there; numbers; loops. -/
import Derived.Test.YtkmkhldmflebkaaGreatCzag
import Derived.Test.YtkmkhldmflebkaaGreatCzae
import Derived.Test.YtkmkhldmflebkaaGreatCzac
import Derived.Test.YtkmkhldmflebkaaGreatProg
import Derived.Test.YtkmkhldmflebkaaGreatChecked
import Derived.Laws.AppendOwn
import Derived.Test.YtkmkhldmflebkaaGreatRows
import Derived.Test.YtkmkhldmflebkaaGreatCzaa
set_option linter.all false
namespace Go.Proofs.YtkmkhldmflebkaaGreat
section
open Go Go.RowKit
inductive RemC (T:Nat→Type) (M:Type) (c:Nat) where
 | cells (id:Nat) (pre post:List (Fd T M))
 | elt (j:Nat) (i:Int) (xs:List (T c))
section
variable (S:Shp)
def avd (H:S.kt.H) (c:Nat) (v:V):Option (S.T c×S.kt.H×RemC S.T S.M c) :=
 match v with
 | .ptr id o =>match get H id with
  | some (.cells fs) =>match Nat.ble (o+S.kt.sz c) fs.length with
   | true =>match aoH S.kt (asm S.kt) (del H id) (S.kt.vw c (S.kt.df c)) ((fs.drop o).take (S.kt.sz c)) with
    | some (l,H1) =>match S.kt.bk c l with
     | some x =>some (x,H1,.cells id (fs.take o) (fs.drop (o+S.kt.sz c)))
     | none =>none
    | none =>none
   | false =>none
  | some (.elt j i sz) =>match Nat.beq o 0 && Nat.beq sz (S.kt.sz c) with
   | true =>match get H j with
    | some (.row c' xs) =>match ajw c' c xs with
     | some ys =>some (atL (S.df c) ys i,del H j,.elt j i ys)
     | none =>none
    | _ =>none
   | false =>none
  | _ =>none
 | _ =>none
def asU (c:Nat) (x:S.T c) (H:S.kt.H):RemC S.T S.M c→S.kt.H
 | .cells id pre post =>(id,.cells (pre++((S.kt.vw c x).map .f++post)))::H
 | .elt j i xs =>(j,.row c (xs.set i.toNat x))::H
def asl (ρ:Env) (c:Nat):RemC S.T S.M c→aai
 | .cells id pre post =>fun h =>∃ us ws:List Value,us.length=pre.length∧abG (pts (ρ.p id).1 (ρ.p id).2 us::pts (ρ.p id).1 ((ρ.p id).2+pre.length+S.kt.sz c) ws::(fsS (fS S.kt ρ) pre us++fsS (fS S.kt ρ) post ws)) h
 | .elt j i xs =>fun h =>∃ (b o:Nat) (vss:List (List Value)) (spare:List Value) (N:List aai),(0≤i∧i<(xs.length:Int))∧((ρ.s j).a=some ⟨b,o,none⟩∧(ρ.s j).n=xs.length)∧(vss.length=xs.length∧∀ v∈vss,v.length=S.kt.sz c) ∧
   (xs.length≤(ρ.s j).c∧(ρ.s j).c≤maxLen∧spare.length=((ρ.s j).c-xs.length)*S.kt.sz c)∧(∀ x' vs',(abN S.kt (pcS S.kt) c (xs.set i.toNat x') (vss.set i.toNat vs')).Perm (fsS (pcS S.kt) (S.kt.vw c x') vs'++N)) ∧
   abG (pts b o (vss.flatten.take (i.toNat*S.kt.sz c))::pts b (o+i.toNat*S.kt.sz c+S.kt.sz c) (vss.flatten.drop (i.toNat*S.kt.sz c+S.kt.sz c)++spare)::N) h
def acR (ρ:Env) (c:Nat):RemC S.T S.M c→Nat×Nat
 | .cells id pre _ =>((ρ.p id).1,(ρ.p id).2+pre.length)
 | .elt j i _ =>match (ρ.s j).a with
  | some a =>(a.block,a.off+i.toNat*S.kt.sz c)
  | none =>(0,0)
end
section
variable {S:Shp} {B:Nat} {w:World} {ρ:Env}
theorem als {α:Type} {A:α→aai} {L:List aai} (s:Sat B w ((fun h =>∃ x,A x h)::L)):∃ x,Sat B w (A x::L):=by
 obtain ⟨h,Hh,k1,k2,a,e,⟨x,hx⟩,hL⟩:=s
 exact ⟨x,h,Hh,k1,k2,a,e,hx,hL⟩
theorem avD {N L:List aai} (s:Sat B w (abG N::L)):Sat B w (N++L):=by
 obtain ⟨h,Hh,k1,k2,a,e,hx,hL⟩:=s
 exact ⟨h,Hh,aap.2 ⟨k1,k2,a,e,hx,hL⟩⟩
theorem ahe {N L:List aai} {A:aai} (f:∀ h,abG N h→A h) (s:Sat B w (N++L)):Sat B w (A::L):=by
 obtain ⟨h,Hh,hs⟩:=s
 obtain ⟨k1,k2,a,e,g1,g2⟩:=aap.1 hs
 exact ⟨h,Hh,k1,k2,a,e,f _ g1,g2⟩
theorem avc {H H1:S.kt.H} {c:Nat} {v:V} {x:S.T c} {r:RemC S.T S.M c} (h:avd S H c v=some (x,H1,r)) {X:List aai} (s:Sat B w (dH S.kt ρ H++X)) :
  aau ρ v=.pointer (some ⟨(acR S ρ c r).1,(acR S ρ c r).2,none⟩)∧Sat B w (obS S.kt c x (acR S ρ c r)::asl S ρ c r::(dH S.kt ρ H1++X)):=by
 unfold avd at h
 split at h
 ·rename_i id o
  split at h
  ·rename_i fs hg
   split at h
   ·rename_i hB
    split at h
    ·rename_i l H2 hl
     split at h
     ·rename_i y hy
      cases h
      have hle:=Nat.le_of_ble_eq_true hB
      obtain ⟨vs,s1⟩:=afr (s.imp (aaS (ρ:=ρ) hg))
      have hlen:=agN s1
      have hol:(fs.take o).length=o:=by simp; omega
      refine ⟨by simp [aau,acR,hol],?_⟩
      -- three parts
      have e1:fsS (fS S.kt ρ) fs vs=fsS (fS S.kt ρ) (fs.take o) (vs.take o)++(fsS (fS S.kt ρ) ((fs.drop o).take (S.kt.sz c)) ((vs.drop o).take (S.kt.sz c))++fsS (fS S.kt ρ) (fs.drop (o+S.kt.sz c)) (vs.drop (o+S.kt.sz c))):=by
       conv =>lhs; rw [← List.take_append_drop o fs,← List.take_append_drop o vs,agj (by simp [hlen])]
       conv =>lhs; arg 2; rw [← List.take_append_drop (S.kt.sz c) (fs.drop o),← List.take_append_drop (S.kt.sz c) (vs.drop o),agj (by simp [hlen]),List.drop_drop,List.drop_drop]
      have e2:vs=vs.take o++((vs.drop o).take (S.kt.sz c)++vs.drop (o+S.kt.sz c)):=by
       rw [← List.drop_drop,List.take_append_drop,List.take_append_drop]
      have s2:Sat B w (pts (ρ.p id).1 (ρ.p id).2 (vs.take o++((vs.drop o).take (S.kt.sz c)++vs.drop (o+S.kt.sz c)))::(fsS (fS S.kt ρ) fs vs++(dH S.kt ρ (del H id)++X))):=by rw [← e2]; exact s1
      have s3:=s2.imp ah5
      have hvo:(vs.take o).length=o:=by simp; omega
      rw [hvo] at s3
      have s4:Sat B w (pts (ρ.p id).1 ((ρ.p id).2+o) ((vs.drop o).take (S.kt.sz c)++vs.drop (o+S.kt.sz c))::pts (ρ.p id).1 (ρ.p id).2 (vs.take o)::(fsS (fS S.kt ρ) fs vs++(dH S.kt ρ (del H id)++X))):=s3.perm (List.Perm.swap ..)
      have s5:=s4.imp ah5
      have hvm:((vs.drop o).take (S.kt.sz c)).length=S.kt.sz c:=by rw [List.length_take,List.length_drop]; omega
      rw [hvm,e1] at s5
      -- the middle is put together
      have s6:Sat B w (fsS (fS S.kt ρ) ((fs.drop o).take (S.kt.sz c)) ((vs.drop o).take (S.kt.sz c))++(dH S.kt ρ (del H id)++(pts (ρ.p id).1 ((ρ.p id).2+o) ((vs.drop o).take (S.kt.sz c))::((pts (ρ.p id).1 (ρ.p id).2 (vs.take o)::pts (ρ.p id).1 ((ρ.p id).2+o+S.kt.sz c) (vs.drop (o+S.kt.sz c))::(fsS (fS S.kt ρ) (fs.take o) (vs.take o)++fsS (fS S.kt ρ) (fs.drop (o+S.kt.sz c)) (vs.drop (o+S.kt.sz c))))++X)))):=by
       refine s5.perm ?_
       refine List.Perm.symm ?_
       refine (ahF _ _ _ _).trans (List.Perm.cons _ ?_)
       simp only [List.cons_append]
       refine (ahF _ _ _ _).trans ?_
       refine List.Perm.trans (List.Perm.cons _ (ahF _ _ _ _)) ?_
       refine (List.Perm.swap ..).trans (List.Perm.cons _ (List.Perm.cons _ ?_))
       simp only [List.append_assoc]
       -- mid ++ (H ++ (pre ++ (post ++ X)))  ~  pre ++ (mid ++ (post ++ (H ++ X)))
       refine (List.Perm.append_left _ (acY _ _ _)).trans ?_
       refine (acY _ _ _).trans (List.Perm.append_left _ (List.Perm.append_left _ (acY _ _ _)))
      have s7:=ags ak8 hl s6
      have s8:Sat B w ((pts (ρ.p id).1 ((ρ.p id).2+o) ((vs.drop o).take (S.kt.sz c))::fsS (pcS S.kt) l ((vs.drop o).take (S.kt.sz c)))++((pts (ρ.p id).1 (ρ.p id).2 (vs.take o)::pts (ρ.p id).1 ((ρ.p id).2+o+S.kt.sz c) (vs.drop (o+S.kt.sz c))::(fsS (fS S.kt ρ) (fs.take o) (vs.take o)++fsS (fS S.kt ρ) (fs.drop (o+S.kt.sz c)) (vs.drop (o+S.kt.sz c))))++(dH S.kt ρ H1++X))):=by
       refine s7.perm ?_
       refine (ahF _ _ _ _).trans ?_
       simp only [List.cons_append]
       refine List.Perm.cons _ (List.Perm.append_left _ ?_)
       exact acY (dH S.kt ρ H1) (pts (ρ.p id).1 (ρ.p id).2 (vs.take o)::pts (ρ.p id).1 ((ρ.p id).2+o+S.kt.sz c) (vs.drop (o+S.kt.sz c))::(fsS (fS S.kt ρ) (fs.take o) (vs.take o)++fsS (fS S.kt ρ) (fs.drop (o+S.kt.sz c)) (vs.drop (o+S.kt.sz c)))) X
      refine ahe (fun k hk =>?_) (?_:Sat B w ((pts (ρ.p id).1 ((ρ.p id).2+o) ((vs.drop o).take (S.kt.sz c))::fsS (pcS S.kt) l ((vs.drop o).take (S.kt.sz c)))++(asl S ρ c (.cells id (fs.take o) (fs.drop (o+S.kt.sz c)))::(dH S.kt ρ H1++X))))
      ·refine ajg.2 ⟨(vs.drop o).take (S.kt.sz c),?_⟩
       rw [S.kt.bk_ok _ _ _ hy]
       simpa [acR,hol] using hk
      ·have s9:=s8.perm List.perm_append_comm
       rw [List.append_assoc] at s9
       have s10:=ahe (A:=asl S ρ c (.cells id (fs.take o) (fs.drop (o+S.kt.sz c)))) (fun k hk =>⟨vs.take o,vs.drop (o+S.kt.sz c),by rw [hvo,hol],by rw [hol]; exact hk⟩) s9
       refine s10.perm ?_
       refine List.Perm.symm ?_
       refine (List.perm_middle).trans (List.Perm.cons _ List.perm_append_comm)
     ·cases h
    ·cases h
   ·cases h
  ·rename_i j i sz hel
   split at h
   ·rename_i hB
    split at h
    ·rename_i c' xs hg
     split at h
     ·rename_i ys hy
      cases h
      obtain ⟨rfl,rfl⟩:=aeM hy
      simp only [Bool.and_eq_true] at hB
      obtain rfl:=Nat.eq_of_beq_eq_true hB.1
      obtain rfl:=Nat.eq_of_beq_eq_true hB.2
      obtain ⟨hi,b,o2,hA,hp⟩:=aos s hel
      obtain ⟨hn,vss,h2,h3,s2⟩:=afP s hg
      rw [hn] at hi
      have hxi:=ab2 (d:=S.df c') hi
      have hlt:i.toNat<vss.length:=by omega
      have hvs:vss[i.toNat]?=some vss[i.toNat]:=List.getElem?_eq_getElem hlt
      have hvl:=h3 _ (List.getElem_mem hlt)
      refine ⟨by simp [aau,acR,hA,hp],?_⟩
      obtain ⟨hh,Hh,k1,k2,a,e,⟨r1,r2,r3,r4⟩,hL⟩:=s2
      rcases r4 with ⟨r4,_⟩ | ⟨b',o',spare,hA',hsp,hpts⟩
      ·rw [r4] at hA; cases hA
      ·rw [hA] at hA'
       cases hA'
       obtain ⟨N,p1,p2⟩:=afO (pc:=pcS S.kt) hxi hvs
       have hfl:=adn h3
       have hlow:i.toNat*S.kt.sz c'+S.kt.sz c'≤vss.flatten.length:=by
        rw [hfl]
        have:(i.toNat+1)*S.kt.sz c'≤vss.length*S.kt.sz c':=Nat.mul_le_mul_right _ hlt
        rw [Nat.add_mul] at this; omega
       have hmid:(vss.flatten.drop (i.toNat*S.kt.sz c')).take (S.kt.sz c')=vss[i.toNat]:=by
        apply List.ext_getElem?
        intro q
        by_cases hq:q<S.kt.sz c'
        ·rw [List.getElem?_take_of_lt hq,List.getElem?_drop]
         rw [ahx h3 hvs (v:=(vss[i.toNat])[q]'(by omega)) (List.getElem?_eq_getElem _),List.getElem?_eq_getElem]
        ·rw [List.getElem?_eq_none (by rw [List.length_take,List.length_drop]; omega),List.getElem?_eq_none (by omega)]
       have e2:vss.flatten++spare=vss.flatten.take (i.toNat*S.kt.sz c')++(vss[i.toNat]++(vss.flatten.drop (i.toNat*S.kt.sz c'+S.kt.sz c')++spare)):=by
        rw [← hmid,← List.drop_drop,← List.append_assoc (List.take _ _),← List.append_assoc,List.append_assoc (List.take (i.toNat*S.kt.sz c') _),List.take_append_drop,List.take_append_drop]
       have t1:Sat B w (pts b o2 (vss.flatten.take (i.toNat*S.kt.sz c')++(vss[i.toNat]++(vss.flatten.drop (i.toNat*S.kt.sz c'+S.kt.sz c')++spare)))::(abN S.kt (pcS S.kt) c' ys vss++(dH S.kt ρ (del H j)++X))):=by
        rw [← e2]; exact ⟨hh,Hh,k1,k2,a,e,hpts,hL⟩
       have t2:=t1.imp ah5
       have htl:(vss.flatten.take (i.toNat*S.kt.sz c')).length=i.toNat*S.kt.sz c':=by rw [List.length_take]; omega
       rw [htl] at t2
       have t3:=(t2.perm (List.Perm.swap ..)).imp ah5
       rw [hvl] at t3
       have t4:Sat B w ((pts b (o2+i.toNat*S.kt.sz c') vss[i.toNat]::fsS (pcS S.kt) (S.kt.vw c' (atL (S.df c') ys i)) vss[i.toNat])++((pts b o2 (vss.flatten.take (i.toNat*S.kt.sz c'))::pts b (o2+i.toNat*S.kt.sz c'+S.kt.sz c') (vss.flatten.drop (i.toNat*S.kt.sz c'+S.kt.sz c')++spare)::N)++(dH S.kt ρ (del H j)++X))):=by
        refine t3.perm ?_
        simp only [List.cons_append]
        refine List.Perm.cons _ ?_
        refine (List.Perm.swap ..).trans ?_
        refine List.Perm.trans ?_ (List.perm_middle).symm
        refine List.Perm.cons _ ?_
        refine List.Perm.trans ?_ (List.perm_middle).symm
        refine List.Perm.cons _ ?_
        exact (p1.append_right _).trans (by rw [List.append_assoc])
       refine ahe (fun k hk =>?_) (?_:Sat B w ((pts b (o2+i.toNat*S.kt.sz c') vss[i.toNat]::fsS (pcS S.kt) (S.kt.vw c' (atL (S.df c') ys i)) vss[i.toNat])++(asl S ρ c' (.elt j i ys)::(dH S.kt ρ (del H j)++X))))
       ·refine ajg.2 ⟨vss[i.toNat],?_⟩
        simpa [acR,hA] using hk
       ·have s9:=t4.perm List.perm_append_comm
        rw [List.append_assoc] at s9
        have s10:=ahe (A:=asl S ρ c' (.elt j i ys)) (fun k hk =>⟨b,o2,vss,spare,N,hi,⟨hA,hn⟩,⟨h2.symm,h3⟩,⟨r2,r3,hsp⟩,p2,hk⟩) s9
        refine s10.perm ?_
        refine List.Perm.symm ?_
        exact (List.perm_middle).trans (List.Perm.cons _ List.perm_append_comm)
     ·cases h
    ·cases h
   ·cases h
  ·cases h
 ·cases h
theorem aro {H:S.kt.H} {c:Nat} {x:S.T c} {r:RemC S.T S.M c} {X:List aai} (s:Sat B w (obS S.kt c x (acR S ρ c r)::asl S ρ c r::(dH S.kt ρ H++X))):Sat B w (dH S.kt ρ (asU S c x H r)++X):=by
 obtain ⟨h,Hh,k1,k2,a,e,hO,hL⟩:=s
 rw [ajg] at hO
 obtain ⟨vs,hO⟩:=hO
 have s1:Sat B w ((pts (acR S ρ c r).1 (acR S ρ c r).2 vs::fsS (pcS S.kt) (S.kt.vw c x) vs)++(asl S ρ c r::(dH S.kt ρ H++X))):=⟨h,Hh,aap.2 ⟨k1,k2,a,e,hO,hL⟩⟩
 have hlen:(S.kt.vw c x).length=vs.length:=agN s1
 rw [S.kt.sz_ok] at hlen
 have s2:Sat B w (asl S ρ c r::((pts (acR S ρ c r).1 (acR S ρ c r).2 vs::fsS (pcS S.kt) (S.kt.vw c x) vs)++(dH S.kt ρ H++X))):=s1.perm (aax fun f g h1 h2 h3 =>by simp only [h1,h2,h3]; omega)
 cases r with
 | cells id pre post =>
  obtain ⟨us,s3⟩:=als (show Sat B w ((fun h =>∃ us,(fun us h =>∃ ws:List Value,us.length=pre.length∧abG (pts (ρ.p id).1 (ρ.p id).2 us::pts (ρ.p id).1 ((ρ.p id).2+pre.length+S.kt.sz c) ws::(fsS (fS S.kt ρ) pre us++fsS (fS S.kt ρ) post ws)) h) us h)::((pts ((ρ.p id).1) ((ρ.p id).2+pre.length) vs::fsS (pcS S.kt) (S.kt.vw c x) vs)++(dH S.kt ρ H++X))) from s2)
  obtain ⟨ws,s4⟩:=als s3
  obtain ⟨hu,s5⟩:us.length=pre.length∧Sat B w (abG (pts (ρ.p id).1 (ρ.p id).2 us::pts (ρ.p id).1 ((ρ.p id).2+pre.length+S.kt.sz c) ws::(fsS (fS S.kt ρ) pre us++fsS (fS S.kt ρ) post ws))::((pts ((ρ.p id).1) ((ρ.p id).2+pre.length) vs::fsS (pcS S.kt) (S.kt.vw c x) vs)++(dH S.kt ρ H++X))):=by
   obtain ⟨h',Hh',j1,j2,a',e',⟨g1,g2⟩,hL'⟩:=s4
   exact ⟨g1,h',Hh',j1,j2,a',e',g2,hL'⟩
  have s6:=avD s5
  have s7:Sat B w (pts (ρ.p id).1 ((ρ.p id).2+pre.length) vs::pts (ρ.p id).1 ((ρ.p id).2+pre.length+S.kt.sz c) ws::(pts (ρ.p id).1 (ρ.p id).2 us::(fsS (fS S.kt ρ) pre us++(fsS (pcS S.kt) (S.kt.vw c x) vs++fsS (fS S.kt ρ) post ws))++(dH S.kt ρ H++X))):=s6.perm (aax fun f g h1 h2 h3 =>by simp only [h1,h2,h3]; omega)
  have s8:=s7.imp (ajc (by rw [← hlen]))
  have s9:=(s8.perm (List.Perm.swap ..)).imp (ajc (by rw [hu]))
  refine ahe (N:=pts (ρ.p id).1 (ρ.p id).2 (us++(vs++ws))::(fsS (fS S.kt ρ) pre us++(fsS (pcS S.kt) (S.kt.vw c x) vs++fsS (fS S.kt ρ) post ws))) (fun k hk =>⟨us++(vs++ws),?_⟩) s9
  show abG (pts (ρ.p id).1 (ρ.p id).2 (us++(vs++ws))::fsS (fS S.kt ρ) (pre++((S.kt.vw c x).map .f++post)) (us++(vs++ws))) k
  rw [agj hu.symm,agj (by rw [List.length_map,S.kt.sz_ok,hlen]),akU (pcS S.kt) _ (fun x v =>rfl)]
  exact hk
 | elt j i xs =>
  obtain ⟨h',Hh',j1,j2,a',e',⟨b,o,vss,spare,N,hi,⟨hA,hn⟩,⟨hvl,hvz⟩,⟨hc1,hc2,hc3⟩,hperm,hst⟩,hL'⟩:=s2
  have s3:Sat B w ((pts b o (vss.flatten.take (i.toNat*S.kt.sz c))::pts b (o+i.toNat*S.kt.sz c+S.kt.sz c) (vss.flatten.drop (i.toNat*S.kt.sz c+S.kt.sz c)++spare)::N)++((pts (acR S ρ c (.elt j i xs)).1 (acR S ρ c (.elt j i xs)).2 vs::fsS (pcS S.kt) (S.kt.vw c x) vs)++(dH S.kt ρ H++X))):=⟨h',Hh',aap.2 ⟨j1,j2,a',e',hst,hL'⟩⟩
  have hra:acR S ρ c (.elt j i xs)=(b,o+i.toNat*S.kt.sz c):=by simp [acR,hA]
  rw [hra] at s3
  have hlt:i.toNat<vss.length:=by omega
  have hvs:vss[i.toNat]?=some vss[i.toNat]:=List.getElem?_eq_getElem hlt
  have hfl:=adn hvz
  have hlow:i.toNat*S.kt.sz c+S.kt.sz c≤vss.flatten.length:=by
   rw [hfl]
   have:(i.toNat+1)*S.kt.sz c≤vss.length*S.kt.sz c:=Nat.mul_le_mul_right _ hlt
   rw [Nat.add_mul] at this; omega
  have htl:(vss.flatten.take (i.toNat*S.kt.sz c)).length=i.toNat*S.kt.sz c:=by rw [List.length_take]; omega
  have s4:Sat B w (pts b (o+i.toNat*S.kt.sz c) vs::pts b (o+i.toNat*S.kt.sz c+S.kt.sz c) (vss.flatten.drop (i.toNat*S.kt.sz c+S.kt.sz c)++spare)::(pts b o (vss.flatten.take (i.toNat*S.kt.sz c))::(fsS (pcS S.kt) (S.kt.vw c x) vs++N)++(dH S.kt ρ H++X))):=s3.perm (aax fun f g h1 h2 h3 =>by simp only [h1,h2,h3]; omega)
  have s5:=s4.imp (ajc (by rw [← hlen]))
  have s6:=(s5.perm (List.Perm.swap ..)).imp (ajc (by rw [htl]))
  have e2:vss.flatten.take (i.toNat*S.kt.sz c)++(vs++(vss.flatten.drop (i.toNat*S.kt.sz c+S.kt.sz c)++spare))=(vss.set i.toNat vs).flatten++spare:=by
   have:=agk (o:=0) (us:=vs) hvz hvs (by omega)
   have e3:(vss[i.toNat]).take 0++vs++(vss[i.toNat]).drop (0+vs.length)=vs:=by
    have:=hvz _ (List.getElem_mem hlt)
    rw [List.drop_eq_nil_of_le (by omega)]; simp
   rw [e3,Nat.add_zero,← hlen] at this
   rw [this]; simp only [List.append_assoc]
  rw [e2] at s6
  have s7:Sat B w ((pts b o ((vss.set i.toNat vs).flatten++spare)::abN S.kt (pcS S.kt) c (xs.set i.toNat x) (vss.set i.toNat vs))++(dH S.kt ρ H++X)):=s6.perm (List.Perm.cons _ ((hperm x vs).symm.append_right _))
  refine ahe (fun k hk =>?_) s7
  obtain ⟨q1,q2,qa,qe,g1,g2⟩:=hk
  refine ⟨by rw [List.length_set]; exact hn,ab7.2 ⟨vss.set i.toNat vs,q1,q2,qa,qe,⟨?_,?_,hc2,.inr ⟨b,o,spare,hA,?_,g1⟩⟩,g2⟩⟩
  ·have hz2:∀ v∈vss.set i.toNat vs,v.length=S.kt.sz c:=fun v hv =>by
    rcases List.mem_or_eq_of_mem_set hv with e | e
    ·exact hvz v e
    ·rw [e,← hlen]
   rw [adn hz2,List.length_set,List.length_set,hvl]
  ·rw [List.length_set]; exact hc1
  ·rw [List.length_set]; exact hc3
end
section
variable (S:Shp)
def ave:List Pk→Type
 | [] =>Unit
 | .ref c::l =>RemC S.T S.M c×ave l
 | .mch::l =>Nat×ave l
 | .lent _::l =>Nat×ave l
 | .sh _::l =>ave l
 | .val _::l =>ave l
def aso (Z:S.kt.H):(ps:List Pk)→S.kt.H→List V→Option (aq9 S ps×S.kt.H×ave S ps)
 | [],H,[] =>some ((),H,())
 | .sh s::ps,H,v::vs =>match aBn S Z H s v with
  | some (x,H1) =>match aso Z ps H1 vs with
   | some (r,H2,m) =>some ((x,r),H2,m)
   | none =>none
  | none =>none
 | .val c::ps,H,v::vs =>match aBp S H c v with
  | some (x,H1) =>match aso Z ps H1 vs with
   | some (r,H2,m) =>some ((x,r),H2,m)
   | none =>none
  | none =>none
 | .ref c::ps,H,v::vs =>match avd S H c v with
  | some (x,H1,q) =>match aso Z ps H1 vs with
   | some (r,H2,m) =>some ((x,r),H2,(q,m))
   | none =>none
  | none =>none
 | .mch::ps,H,v::vs =>match v with
  | .mc id =>match get H id with
   | some (.mach x) =>match aso Z ps (del H id) vs with
    | some (r,H2,m) =>some ((x,r),H2,(id,m))
    | none =>none
   | _ =>none
  | _ =>none
 | .lent c::ps,H,v::vs =>match v with
  | .sl id =>match get H id with
   | some (.row c' xs) =>match ajw c' c xs with
    | some ys =>match aso Z ps (del H id) vs with
     | some (r,H2,m) =>some ((ys,r),H2,(id,m))
     | none =>none
    | none =>none
   | _ =>none
  | _ =>none
 | _,_,_ =>none
def air:(ps:List Pk)→ave S ps→anm S ps→S.kt.H→S.kt.H
 | [],_,_,H =>H
 | .sh _::ps,m,o,H =>air ps m o H
 | .val _::ps,m,o,H =>air ps m o H
 | .ref c::ps,m,o,H =>asU S c o.1 (air ps m.2 o.2 H) m.1
 | .mch::ps,m,o,H =>(m.1,.mach o.1)::air ps m.2 o.2 H
 | .lent c::ps,m,o,H =>(m.1,.row c o.1)::air ps m.2 o.2 H
def alb (ρ:Env):(ps:List Pk)→ave S ps→List aai
 | [],_ =>[]
 | .sh _::ps,m =>alb ρ ps m
 | .val _::ps,m =>alb ρ ps m
 | .ref c::ps,m =>asl S ρ c m.1::alb ρ ps m.2
 | .mch::ps,m =>alb ρ ps m.2
 | .lent _::ps,m =>alb ρ ps m.2
def akM (ρ:Env):(ps:List Pk)→ave S ps→List Value→Prop
 | [],_,_ =>True
 | .sh _::ps,m,_::vs =>akM ρ ps m vs
 | .val _::ps,m,_::vs =>akM ρ ps m vs
 | .ref c::ps,m,v::vs =>v=.pointer (some ⟨(acR S ρ c m.1).1,(acR S ρ c m.1).2,none⟩)∧akM ρ ps m.2 vs
 | .mch::ps,m,v::vs =>v=ρ.v m.1∧akM ρ ps m.2 vs
 | .lent _::ps,m,v::vs =>v=aau ρ (.sl m.1)∧akM ρ ps m.2 vs
 | _::_,_,[] =>False
end
section
variable {S:Shp} {B:Nat} {w:World} {ρ:Env}
theorem ax5 {id c' c:Nat} {zs:List (S.T c')} {ys:List (S.T c)} {L:List aai} (s:Sat B w (acb S.kt ρ id (.row c' zs)::L)) (hq:ajw c' c zs=some ys):Sat B w (pcS S.kt (.row c ys) (aau ρ (.sl id))::L):=by
 obtain ⟨e,he⟩:=aeM hq
 subst e
 subst he
 refine abE (fun k hk =>?_) s
 rw [aaU]
 exact ⟨(ρ.s id).a,(ρ.s id).c,by rw [← hk.1]; rfl,hk.2⟩
theorem azT {id c:Nat} {xs:List (S.T c)} {L:List aai} (s:Sat B w (pcS S.kt (.row c xs) (aau ρ (.sl id))::L)):Sat B w (acb S.kt ρ id (.row c xs)::L):=abE (fun k hk =>by
 rw [aaU] at hk
 obtain ⟨A,cap,e,h⟩:=hk
 injection e with e1 e2 e3
 subst e1 e3
 exact ⟨e2,h⟩) s
theorem ajC {Z:S.kt.H}:∀ {ps:List Pk} {H H':S.kt.H} {vs:List V} {x:aq9 S ps} {m:ave S ps},aso S Z ps H vs=some (x,H',m)→∀ {X:List aai},Sat B w (dH S.kt ρ H++(dH S.kt ρ Z++X)) →
  akM S ρ ps m (aao ρ vs)∧Sat B w (amb S ps x (aao ρ vs)++(alb S ρ ps m++(dH S.kt ρ H'++(dH S.kt ρ Z++X))))
 | [],H,H',[],x,m,h,X,s =>by cases h; exact ⟨trivial,s⟩
 | [],_,_,_::_,_,_,h,_,_ =>by cases h
 | .sh _::_,_,_,[],_,_,h,_,_ =>by cases h
 | .val _::_,_,_,[],_,_,h,_,_ =>by cases h
 | .ref _::_,_,_,[],_,_,h,_,_ =>by cases h
 | .mch::_,_,_,[],_,_,h,_,_ =>by cases h
 | .lent _::_,_,_,[],_,_,h,_,_ =>by cases h
 | .sh s0::ps,H,H',v::vs,x,m,h,X,s =>by
  unfold aso at h
  split at h
  ·rename_i y H1 h1
   split at h
   ·rename_i r H2 m' h2
    cases h
    have s1:=au3 h1 s
    obtain ⟨l,s2⟩:=ajC h2 (X:=pcS S.kt (vw1 S.T S.M s0 y) (aau ρ v)::X) (s1.perm (aax fun f g h1 h2 h3 =>by simp only [h1,h2,h3]; omega))
    exact ⟨l,s2.perm (aax fun f g h1 h2 h3 =>by simp only [h1,h2,h3,amb,aao,List.cons_append,alb]; omega)⟩
   ·cases h
  ·cases h
 | .val c::ps,H,H',v::vs,x,m,h,X,s =>by
  unfold aso at h
  split at h
  ·rename_i y H1 h1
   split at h
   ·rename_i r H2 m' h2
    cases h
    have s1:=au5 h1 s
    obtain ⟨l,s2⟩:=ajC h2 (X:=avp S c y (aau ρ v)::X) (s1.perm (aax fun f g h1 h2 h3 =>by simp only [h1,h2,h3]; omega))
    exact ⟨l,s2.perm (aax fun f g h1 h2 h3 =>by simp only [h1,h2,h3,amb,aao,List.cons_append,alb]; omega)⟩
   ·cases h
  ·cases h
 | .ref c::ps,H,H',v::vs,x,m,h,X,s =>by
  unfold aso at h
  split at h
  ·rename_i y H1 q h1
   split at h
   ·rename_i r H2 m' h2
    cases h
    obtain ⟨hv,s1⟩:=avc h1 s
    have s1':Sat B w (pcS S.kt (.own c y) (aau ρ v)::asl S ρ c q::(dH S.kt ρ H1++(dH S.kt ρ Z++X))):=abE (fun k hk =>aaU.2 (show pcW S.kt (obS S.kt) (rwS S.kt) (.own c y) (aau ρ v) k from ⟨_,hv,hk⟩)) s1
    obtain ⟨l,s2⟩:=ajC h2 (X:=pcS S.kt (.own c y) (aau ρ v)::asl S ρ c q::X) (s1'.perm (aax fun f g h1 h2 h3 =>by simp only [h1,h2,h3]; omega))
    exact ⟨⟨hv,l⟩,s2.perm (aax fun f g h1 h2 h3 =>by simp only [h1,h2,h3,amb,aao,List.cons_append,alb]; omega)⟩
   ·cases h
  ·cases h
 | .mch::ps,H,H',v::vs,x,m,h,X,s =>by
  unfold aso at h
  split at h
  ·rename_i id
   split at h
   ·rename_i y hg
    split at h
    ·rename_i r H2 m' h2
     cases h
     have s1:=s.imp (aaS (ρ:=ρ) hg)
     obtain ⟨l,s2⟩:=ajC h2 (X:=pcS S.kt (.mach y) (ρ.v id)::X) (s1.perm (aax fun f g h1 h2 h3 =>by simp only [h1,h2,h3,acb]; omega))
     exact ⟨⟨rfl,l⟩,s2.perm (aax fun f g h1 h2 h3 =>by simp only [h1,h2,h3,amb,aao,aau,List.cons_append,alb]; omega)⟩
    ·cases h
   ·cases h
  ·cases h
 | .lent c::ps,H,H',v::vs,x,m,h,X,s =>by
  unfold aso at h
  split at h
  ·rename_i id
   split at h
   ·rename_i c' zs hg
    split at h
    ·rename_i ys hq
     split at h
     ·rename_i r H2 m' h2
      cases h
      have s1:=ax5 (s.imp (aaS (ρ:=ρ) hg)) hq
      obtain ⟨l,s2⟩:=ajC h2 (X:=pcS S.kt (.row c ys) (aau ρ (.sl id))::X) (s1.perm (aax fun f g h1 h2 h3 =>by simp only [h1,h2,h3]; omega))
      exact ⟨⟨rfl,l⟩,s2.perm (aax fun f g h1 h2 h3 =>by simp only [h1,h2,h3,amb,aao,List.cons_append,alb]; omega)⟩
     ·cases h
    ·cases h
   ·cases h
  ·cases h
theorem az2 {c:Nat} {x:S.T c} {q:Nat×Nat} {L:List aai} (s:Sat B w (pcS S.kt (.own c x) (.pointer (some ⟨q.1,q.2,none⟩))::L)):Sat B w (obS S.kt c x q::L):=abE (fun k hk =>by
 rw [aaU] at hk
 obtain ⟨⟨a',b'⟩,e,h⟩:=hk
 obtain ⟨a,b⟩:=q
 cases e
 exact h) s
theorem ahf:∀ {ps:List Pk} {H:S.kt.H} {m:ave S ps} {o:anm S ps} {vs:List Value} {X:List aai},akM S ρ ps m vs→Sat B w (agG S ps o vs++(alb S ρ ps m++(dH S.kt ρ H++X)))→Sat B w (dH S.kt ρ (air S ps m o H)++X)
 | [],H,m,o,vs,X,_,s =>by cases vs<;>exact s
 | p::_,_,_,_,[],_,l,_ =>by cases p<;>exact l.elim
 | .sh _::ps,H,m,o,v::vs,X,l,s =>ahf (ps:=ps) l s
 | .val _::ps,H,m,o,v::vs,X,l,s =>ahf (ps:=ps) l s
 | .ref c::ps,H,m,o,v::vs,X,l,s =>by
  obtain ⟨hv,l'⟩:=l
  have s1:Sat B w (agG S ps o.2 vs++(alb S ρ ps m.2++(dH S.kt ρ H++(pcS S.kt (.own c o.1) v::asl S ρ c m.1::X)))):=s.perm (aax fun f g h1 h2 h3 =>by simp only [agG,alb,List.cons_append,h1,h2,h3]; omega)
  have s2:=ahf l' s1
  rw [hv] at s2
  have s3:=az2 (q:=acR S ρ c m.1) (s2.perm (ahF (dH S.kt ρ (air S ps m.2 o.2 H)) [] _ _))
  exact aro (s3.perm (aax fun f g h1 h2 h3 =>by simp only [h1,h2,h3]; omega))
 | .mch::ps,H,m,o,v::vs,X,l,s =>by
  obtain ⟨hv,l'⟩:=l
  have s1:Sat B w (agG S ps o.2 vs++(alb S ρ ps m.2++(dH S.kt ρ H++(pcS S.kt (.mach o.1) v::X)))):=s.perm (aax fun f g h1 h2 h3 =>by simp only [agG,alb,List.cons_append,h1,h2,h3]; omega)
  have s2:=ahf l' s1
  rw [hv] at s2
  exact s2.perm (aax fun f g h1 h2 h3 =>by simp only [air,dH,List.map_cons,acb,List.cons_append,h1,h2,h3]; omega)
 | .lent c::ps,H,m,o,v::vs,X,l,s =>by
  obtain ⟨hv,l'⟩:=l
  have s1:Sat B w (agG S ps o.2 vs++(alb S ρ ps m.2++(dH S.kt ρ H++(pcS S.kt (.row c o.1) v::X)))):=s.perm (aax fun f g h1 h2 h3 =>by simp only [agG,alb,List.cons_append,h1,h2,h3]; omega)
  have s2:=ahf l' s1
  rw [hv] at s2
  have s3:=azT (s2.perm (ahF (dH S.kt ρ (air S ps m.2 o.2 H)) [] _ _))
  exact s3.perm (aax fun f g h1 h2 h3 =>by simp only [air,dH,List.map_cons,List.cons_append,List.nil_append,h1,h2,h3]; try omega)
structure Con (S:Shp) where
 f:FuncId
 ps:List Pk
 rs:List Rk
 spec:aq9 S ps→Option (aq8 S rs×anm S ps)
def auF (S:Shp) (c:Con S) {α:Type} (vs:List V) (n:Nat) (Z H:S.kt.H) (k:Nat→S.kt.H→V→Option α):Option α :=
 match aso S Z c.ps (aCz S.kt H) vs with
 | some (x,H1,m) =>(c.spec x).bind fun out =>match Nat.ble (adT (air S c.ps m out.2 H1)) n with
  | true =>k (aoG S c.rs out.1 n).2.2 ((aoG S c.rs out.1 n).2.1++air S c.ps m out.2 H1) (axC (aoG S c.rs out.1 n).1)
  | false =>none
 | none =>none
def awA (S:Shp):List (Con S)→FuncId→Option (Con S)
 | [],_ =>none
 | c::l,f =>match Nat.beq c.f f with
  | true =>some c
  | false =>awA S l f
def auX (S:Shp) (cs:List (Con S)):ai1 S.kt:=fun _ f vs n Z H k =>match awA S cs f with
 | some c =>auF S c vs n Z H k
 | none =>none
theorem awz {cs:List (Con S)} {f:FuncId} {c:Con S} (h:awA S cs f=some c):c∈cs∧c.f=f:=by
 induction cs with
 | nil =>cases h
 | cons d cs ih =>
  unfold awA at h
  split at h
  ·rename_i e; cases h; exact ⟨List.mem_cons_self ..,Nat.eq_of_beq_eq_true e⟩
  ·obtain ⟨h1,h2⟩:=ih h; exact ⟨List.mem_cons_of_mem _ h1,h2⟩
theorem apB:∀ {rs:List Rk} {x:aq8 S rs} {n:Nat},n≤(aoG S rs x n).2.2
 | [],_,_ =>Nat.le_refl _
 | .sh _::rs,x,n =>Nat.le_trans (Nat.le_succ n) (apB (rs:=rs) (x:=x.2))
 | .val c::rs,x,n =>Nat.le_trans (Nat.le_add_right ..) (apB (rs:=rs) (x:=x.2))
theorem auW [Tb] {P:Program} {W:World} (hg:aBt B W) {cs:List (Con S)} (h:∀ c∈cs,aw4 S P c.f c.ps c.rs c.spec):ai0 S.kt P B W (auX S cs):=by
 intro α fid vs n Z H k out hk h1 h2 h3 F ρ w hw
 unfold auX at hk
 split at hk
 ·rename_i c hc
  obtain ⟨hm,rfl⟩:=awz hc
  unfold auF at hk
  split at hk
  ·rename_i x H1 m hx
   cases hsp:c.spec x with
   | none =>rw [hsp] at hk; cases hk
   | some o =>
    rw [hsp] at hk
    simp only [Option.bind_some] at hk
    split at hk
    ·rename_i hB
     have hB':=Nat.le_of_ble_eq_true hB
     obtain ⟨l,s1⟩:=ajC hx (X:=[F]) (azf hw.2.2)
     have hcl:Cls B W (amb S c.ps x (aao ρ vs)++[axO (alb S ρ c.ps m++(dH S.kt ρ H1++(dH S.kt ρ Z++[F])))]) w:=⟨hw.1,hw.2.1,s1.fold⟩
     refine afZ.mono (h c hm x o hsp B W hg (aao ρ vs) _ w hcl) ?_
     rintro e w' ⟨us,he,hb1,hb2,hs⟩
     have s2:Sat B w' (ask S c.rs o.1 us++(agG S c.ps o.2 (aao ρ vs)++(alb S ρ c.ps m++(dH S.kt ρ H1++(dH S.kt ρ Z++[F]))))):=by
      rw [← List.append_assoc] at hs
      have:=hs.unfold
      rwa [List.append_assoc] at this
     have s3:Sat B w' (agG S c.ps o.2 (aao ρ vs)++(alb S ρ c.ps m++(dH S.kt ρ H1++(ask S c.rs o.1 us++(dH S.kt ρ Z++[F]))))):=s2.perm (aax fun f g h1 h2 h3 =>by simp only [h1,h2,h3]; omega)
     have s4:=ahf l s3
     have s5:Sat B w' (ask S c.rs o.1 us++(fun ρ =>dH S.kt ρ (air S c.ps m o.2 H1)++tl S.kt Z F ρ) ρ):=s4.perm (acY _ _ _)
     obtain ⟨ρ',a,e1,s6⟩:=apA (n:=n) (X:=fun ρ =>dH S.kt ρ (air S c.ps m o.2 H1)++tl S.kt Z F ρ) (fun ρ ρ' ha =>by
      show _++_=_++_
      rw [abV ha _ hB',acf h2 ha]) s5
     refine ⟨⟨ρ',_,_,_⟩,⟨a,apB,hk⟩,?_,hb1,hb2,?_⟩
     ·rw [he,e1,ap4]; rfl
     ·rw [dS,dHa,List.append_assoc]; exact s6
    ·cases hk
  ·cases hk
 ·cases hk
end
section
variable {S:Shp}
variable [Tb]
def CO (P:Program) (c:Con S):Prop:=aw4 S P c.f c.ps c.rs c.spec
def Oks (P:Program):List (Con S)→Prop
 | [] =>True
 | c::l =>CO P c∧Oks P l
theorem Oks.mem {P:Program}:∀ {l:List (Con S)},Oks P l→∀ c∈l,CO P c
 | [],_,c,h =>by cases h
 | d::l,⟨h1,h2⟩,c,h =>(List.mem_cons.1 h).elim (fun e =>by subst e; exact h1) (h2.mem c)
def Tbs (P:Program):List (Nat×Func)→Prop
 | [] =>True
 | p::l =>P.funcs[p.1]?=some p.2∧Tbs P l
theorem Tbs.mem {P:Program}:∀ {l:List (Nat×Func)},Tbs P l→∀ p∈l,P.funcs[p.1]?=some p.2
 | [],_,c,h =>by cases h
 | d::l,⟨h1,h2⟩,c,h =>(List.mem_cons.1 h).elim (fun e =>by subst e; exact h1) (h2.mem c)
noncomputable abbrev evC (P:Program) (tb:List (Nat×Func)) (hsf:Nat→List (Nat×Hint)) (cs:List (Con S)) (hs:List (Nat×Hint)) (fn:Func) (c:Con S) (x:aq9 S c.ps):Option (aq8 S c.rs×anm S c.ps) :=
 evF S P (inl S P tb hsf (auX S cs) tb.length) hs fn (cin S c.ps x 0).1 (cin S c.ps x 0).2.2 [] (cin S c.ps x 0).2.1 (aBK S c.ps c.rs)
theorem aaC {P:Program} (hm:P.follows .mixedOrders=true) {c:Con S} {fn:Func} (hf:P.funcs[c.f]?=some fn) (cs:List (Con S)) (h:Oks P cs) (tb:List (Nat×Func)) (ht:Tbs P tb) (hsf:Nat→List (Nat×Hint)) (hs:List (Nat×Hint))
  (he:∀ x,evC P tb hsf cs hs fn c x=c.spec x) (hb:Nat.blt c.f agb=true:=by rfl):CO P c :=
 awQ hm hf (fun _ _ hg =>axp hm ht.mem (auW hg h.mem) tb.length) he hb
theorem apD {P:Program} {c:Con S} (h:CO P c) {spec:aq9 S c.ps→Option (aq8 S c.rs×anm S c.ps)} (he:∀ x out,spec x=some out→c.spec x=some out):CO P ⟨c.f,c.ps,c.rs,spec⟩:=fun x out hx =>h x out (he x out hx)
end
section
variable {S:Shp}
variable [Tb]
end
structure EnvV where
 c:Cfg
 m:MemV
 now:Int
 draw:Int
 recs:List RecV
 evs:List Ev
structure MaV where
 f:List FrV
 over:Bool
 code:Int
 value:Int
structure EngV where
 e:EnvV
 m:List MaV
 n:Int
 stamps:List Int
 last:AccV
structure CodV where
 inn:List Int
 out:List Int
 at_:Int
 bad:Bool
structure FgV where
 acc:Int
 rej:Int
 spa:Int
 ref:Int
 sta:Int
 fin:Int
 ste:Int
 ski:Int
 boo:Int
 age:Int
 par:Int
 lat:Int
 wor:Int
 deriving DecidableEq
structure OutV where
 ended:Bool
 code:Int
 value:Int
 deriving DecidableEq
structure LayV where
 workers:Int
 levels:Int
 classes:Int
 tasks:Int
 deque:Int
 heap:Int
 sleepers:Int
 epochs:Int
 bitmaps:Int
 queues:Int
 table:Int
 deriving DecidableEq
structure ClkV where
 now:Int
 draw:Int
 deriving DecidableEq
structure RecP where
 prog:Int
 parent:Int
 pc:Int
 left:Int
 waiting:Int
 kids:List Int
 started:Bool
 deriving DecidableEq
structure EnvP where
 c:Cfg
 l:LayV
 m:MemV
 k:ClkV
 recs:List RecP
 evs:List Ev
structure B16 where
 b0:Int
 b1:Int
 b2:Int
 b3:Int
 b4:Int
 b5:Int
 b6:Int
 b7:Int
 b8:Int
 b9:Int
 b10:Int
 b11:Int
 b12:Int
 b13:Int
 b14:Int
 b15:Int
 deriving DecidableEq
inductive MV where
 | nil
structure VwV where
 phase:Int
 level:Int
 parent:Int
 worker:Int
 other:Int
 deriving DecidableEq
structure TkV where
 view:VwV
 prog:Int
 pc:Int
 kids:List Int
structure WlV where
 stack:List Int
 walk:Int
 low:Int
 up:Int
 sleeps:Bool
 last:Ev
structure KyV where
 deadline:Int
 arrival:Int
 task:Int
structure QuV where
 keys:List KyV
 count:Int
structure SaV where
 c:Cfg
 tasks:List TkV
 works:List WlV
 queue:QuV
 offers:Int
structure UseV where
 task:Bool
 ot:Bool
 ow:Bool
 other:Bool
 level:Bool
 raw:Bool
structure CtP where
 keys:List KyV
 count:Int
structure TkP where
 ph:Int
 lv:Int
 pa:Int
 prog:List Ins
 at_:Int
 kids:List Int
 wt:Int
structure WkP where
 stack:List Int
 walks:Bool
 walk:Int
 low:Int
 up:Int
 sleeps:Bool
 last:Ev
structure SyP where
 c:Cfg
 tasks:List TkP
 works:List WkP
 offers:Int
 known:Int
 queue:CtP
def TR:Nat→Type
 | 0 =>Int
 | 1 =>Int
 | 2 =>Ev
 | 3 =>Ins
 | 4 =>Sub
 | 5 =>EntV
 | 6 =>St
 | 7 =>RecV
 | 8 =>FrV
 | 9 =>MemV
 | 10 =>ResV
 | 11 =>MaV
 | 12 =>EnvV
 | 13 =>Cfg
 | 14 =>QV
 | 15 =>MaV
 | 16 =>EngV
 | 17 =>Int
 | 18 =>List Ins
 | 19 =>CodV
 | 20 =>Cfg
 | 21 =>FgV
 | 22 =>List Int
 | 23 =>OutV
 | 24 =>LayV
 | 25 =>ClkV
 | 26 =>RecP
 | 27 =>EnvP
 | 28 =>MV
 | 31 =>AccV
 | 60 =>VwV
 | 61 =>TkV
 | 62 =>WlV
 | 63 =>KyV
 | 64 =>SaV
 | 65 =>QuV
 | 66 =>VwV
 | 67 =>UseV
 | 68 =>KyV
 | 69 =>CtP
 | 70 =>TkP
 | 71 =>WkP
 | 72 =>SyP
 | 73 =>Bool
 | _ =>Unit
abbrev sI_:Sh:=.i .i64
abbrev sU_:Sh:=.i .u64
def shR:Nat→List Sh
 | 0 =>[sU_]
 | 1 =>[sI_]
 | 2 =>[sI_,sI_,sI_,sI_,sI_]
 | 3 =>[sI_,sI_,sI_]
 | 4 =>[sI_,sI_,sI_]
 | 5 =>[sI_,sI_]
 | 6 =>[sI_,sI_,sI_,sI_,sI_,sI_]
 | 7 =>[sI_,sI_,sI_,sI_,sI_,.ro 1,.b]
 | 8 =>[sI_,sI_,sI_,sI_,sI_,sI_,sI_,sI_,sI_,sI_,sI_,sI_,sI_,sU_,sU_,sU_,sU_,.ro 1]
 | 9 =>[.row 0,sI_,sI_,sU_,sU_,sI_]
 | 10 =>[.b,sI_,sI_]
 | 11 =>[.row 8,.b,sI_,sI_]
 | 12 =>[sI_,sI_,sI_,sI_,sI_,sI_,sI_,sI_,sI_,.rr 3,.ro 4,.row 0,sI_,sI_,sU_,sU_,sI_,sI_,sI_,.row 7,.row 2]
 | 13 =>[sI_,sI_,sI_,sI_,sI_,sI_,sI_,sI_,sI_,.rr 3,.ro 4]
 | 14 =>[sI_,sI_,sI_,sI_]
 | 15 =>[.own 11]
 | 16 =>[.own 12,.row 15,sI_,.row 1,sI_,sI_,sU_,sU_]
 | 17 =>[.i .u8]
 | 18 =>[.ro 3]
 | 19 =>[.ro 17,.ro 17,sI_,.b]
 | 20 =>[sI_,sI_,sI_,sI_,sI_,sI_,sI_,sI_,sI_,.row 18,.row 4]
 | 21 =>[sI_,sI_,sI_,sI_,sI_,sI_,sI_,sI_,sI_,sI_,sI_,sI_,sI_]
 | 22 =>[.ro 1]
 | 23 =>[.b,sI_,sI_]
 | 24 =>[sI_,sI_,sI_,sI_,sI_,sI_,sI_,sI_,sI_,sI_,sI_]
 | 25 =>[sI_,sI_]
 | 26 =>[sI_,sI_,sI_,sI_,sI_,.row 1,.b]
 | 27 =>[sI_,sI_,sI_,sI_,sI_,sI_,sI_,sI_,sI_,.rr 3,.ro 4,sI_,sI_,sI_,sI_,sI_,sI_,sI_,sI_,sI_,sI_,sI_,.own 9,.own 25,.row 26,.row 2]
 | 28 =>[.mach]
 | 31 =>[sI_,sI_,sU_,sU_]
 | 60 =>[sI_,sI_,sI_,sI_,sI_]
 | 61 =>[sI_,sI_,sI_,sI_,sI_,sI_,sI_,.ro 1]
 | 62 =>[.ro 1,sI_,sI_,sI_,.b,sI_,sI_,sI_,sI_,sI_]
 | 63 =>[sI_,sI_,sI_]
 | 64 =>[sI_,sI_,sI_,sI_,sI_,sI_,sI_,sI_,sI_,.rr 3,.ro 4,.row 61,.row 62,.ro 63,sI_,sI_]
 | 65 =>[.ro 63,sI_]
 | 66 =>[sI_,sI_,sI_,sI_,sI_]
 | 67 =>[.b,.b,.b,.b,.b,.b]
 | 68 =>[sI_,sI_,sI_]
 | 69 =>[.row 68,sI_]
 | 70 =>[sI_,sI_,sI_,.ro 3,sI_,.row 1,sI_]
 | 71 =>[.row 1,.b,sI_,sI_,sI_,.b,sI_,sI_,sI_,sI_,sI_]
 | 72 =>[sI_,sI_,sI_,sI_,sI_,sI_,sI_,sI_,sI_,.rr 3,.ro 4,.row 70,.row 71,sI_,sI_,.row 68,sI_]
 | 73 =>[.b]
 | _ =>[]
def toR:(c:Nat)→TR c→HL TR MV (shR c)
 | 0 =>fun x =>(x,())
 | 1 =>fun x =>(x,())
 | 2 =>fun x =>(x.kind,x.worker,x.task,x.other,x.level,())
 | 3 =>fun x =>(x.op,x.a,x.b,())
 | 4 =>fun x =>(x.prog,x.level,x.deadline,())
 | 5 =>fun x =>(x.kind,x.value,())
 | 6 =>fun x =>(x.at_,x.ev.kind,x.ev.worker,x.ev.task,x.ev.other,x.ev.level,())
 | 7 =>fun x =>(x.prog,x.parent,x.pc,x.left,x.waiting,x.kids,x.started,())
 | 8 =>fun x =>(x.kind,x.line,x.q.top,x.q.bottom,x.q.ring,x.q.cap,x.a,x.b,x.d,x.i,x.j,x.n,x.t,x.u,x.v,x.w,x.x,x.l,())
 | 9 =>fun x =>(x.cells,x.last.kind,x.last.cell,x.last.old,x.last.new,x.count,())
 | 10 =>fun x =>(x.done,x.code,x.value,())
 | 11 =>fun x =>(x.f,x.over,x.code,x.value,())
 | 12 =>fun x =>(x.c.workers,x.c.levels,x.c.classes,x.c.tasks,x.c.deque,x.c.heap,x.c.batch,x.c.age,x.c.patience,x.c.progs,x.c.subs,x.m.cells,x.m.last.kind,x.m.last.cell,x.m.last.old,x.m.last.new,x.m.count,x.now,x.draw,x.recs,x.evs,())
 | 13 =>fun x =>(x.workers,x.levels,x.classes,x.tasks,x.deque,x.heap,x.batch,x.age,x.patience,x.progs,x.subs,())
 | 14 =>fun x =>(x.top,x.bottom,x.ring,x.cap,())
 | 15 =>fun x =>(x,())
 | 16 =>fun x =>(x.e,x.m,x.n,x.stamps,x.last.kind,x.last.cell,x.last.old,x.last.new,())
 | 17 =>fun x =>(x,())
 | 18 =>fun x =>(x,())
 | 19 =>fun x =>(x.inn,x.out,x.at_,x.bad,())
 | 20 =>fun x =>(x.workers,x.levels,x.classes,x.tasks,x.deque,x.heap,x.batch,x.age,x.patience,x.progs,x.subs,())
 | 21 =>fun x =>(x.acc,x.rej,x.spa,x.ref,x.sta,x.fin,x.ste,x.ski,x.boo,x.age,x.par,x.lat,x.wor,())
 | 22 =>fun x =>(x,())
 | 23 =>fun x =>(x.ended,x.code,x.value,())
 | 24 =>fun x =>(x.workers,x.levels,x.classes,x.tasks,x.deque,x.heap,x.sleepers,x.epochs,x.bitmaps,x.queues,x.table,())
 | 25 =>fun x =>(x.now,x.draw,())
 | 26 =>fun x =>(x.prog,x.parent,x.pc,x.left,x.waiting,x.kids,x.started,())
 | 27 =>fun x =>(x.c.workers,x.c.levels,x.c.classes,x.c.tasks,x.c.deque,x.c.heap,x.c.batch,x.c.age,x.c.patience,x.c.progs,x.c.subs,x.l.workers,x.l.levels,x.l.classes,x.l.tasks,x.l.deque,x.l.heap,x.l.sleepers,x.l.epochs,x.l.bitmaps,x.l.queues,x.l.table,x.m,x.k,x.recs,x.evs,())
 | 28 =>fun x =>(x,())
 | 31 =>fun x =>(x.kind,x.cell,x.old,x.new,())
 | 60 =>fun x =>(x.phase,x.level,x.parent,x.worker,x.other,())
 | 61 =>fun x =>(x.view.phase,x.view.level,x.view.parent,x.view.worker,x.view.other,x.prog,x.pc,x.kids,())
 | 62 =>fun x =>(x.stack,x.walk,x.low,x.up,x.sleeps,x.last.kind,x.last.worker,x.last.task,x.last.other,x.last.level,())
 | 63 =>fun x =>(x.deadline,x.arrival,x.task,())
 | 64 =>fun x =>(x.c.workers,x.c.levels,x.c.classes,x.c.tasks,x.c.deque,x.c.heap,x.c.batch,x.c.age,x.c.patience,x.c.progs,x.c.subs,x.tasks,x.works,x.queue.keys,x.queue.count,x.offers,())
 | 65 =>fun x =>(x.keys,x.count,())
 | 66 =>fun x =>(x.phase,x.level,x.parent,x.worker,x.other,())
 | 67 =>fun x =>(x.task,x.ot,x.ow,x.other,x.level,x.raw,())
 | 68 =>fun x =>(x.deadline,x.arrival,x.task,())
 | 69 =>fun x =>(x.keys,x.count,())
 | 70 =>fun x =>(x.ph,x.lv,x.pa,x.prog,x.at_,x.kids,x.wt,())
 | 71 =>fun x =>(x.stack,x.walks,x.walk,x.low,x.up,x.sleeps,x.last.kind,x.last.worker,x.last.task,x.last.other,x.last.level,())
 | 72 =>fun x =>(x.c.workers,x.c.levels,x.c.classes,x.c.tasks,x.c.deque,x.c.heap,x.c.batch,x.c.age,x.c.patience,x.c.progs,x.c.subs,x.tasks,x.works,x.offers,x.known,x.queue.keys,x.queue.count,())
 | 73 =>fun x =>(x,())
 | 29 =>fun _ =>()
 | 30 =>fun _ =>()
 | 32 =>fun _ =>()
 | 33 =>fun _ =>()
 | 34 =>fun _ =>()
 | 35 =>fun _ =>()
 | 36 =>fun _ =>()
 | 37 =>fun _ =>()
 | 38 =>fun _ =>()
 | 39 =>fun _ =>()
 | 40 =>fun _ =>()
 | 41 =>fun _ =>()
 | 42 =>fun _ =>()
 | 43 =>fun _ =>()
 | 44 =>fun _ =>()
 | 45 =>fun _ =>()
 | 46 =>fun _ =>()
 | 47 =>fun _ =>()
 | 48 =>fun _ =>()
 | 49 =>fun _ =>()
 | 50 =>fun _ =>()
 | 51 =>fun _ =>()
 | 52 =>fun _ =>()
 | 53 =>fun _ =>()
 | 54 =>fun _ =>()
 | 55 =>fun _ =>()
 | 56 =>fun _ =>()
 | 57 =>fun _ =>()
 | 58 =>fun _ =>()
 | 59 =>fun _ =>()
 | _+74 =>fun _ =>()
def ofR:(c:Nat)→HL TR MV (shR c)→TR c
 | 0 =>fun p =>p.1
 | 1 =>fun p =>p.1
 | 2 =>fun ⟨a,b,c,d,e,_⟩ =>⟨a,b,c,d,e⟩
 | 3 =>fun ⟨a,b,c,_⟩ =>⟨a,b,c⟩
 | 4 =>fun ⟨a,b,c,_⟩ =>⟨a,b,c⟩
 | 5 =>fun ⟨a,b,_⟩ =>⟨a,b⟩
 | 6 =>fun ⟨z,a,b,c,d,e,_⟩ =>⟨z,⟨a,b,c,d,e⟩⟩
 | 7 =>fun ⟨a,b,c,d,e,f,g,_⟩ =>⟨a,b,c,d,e,f,g⟩
 | 8 =>fun ⟨a,b,q1,q2,q3,q4,c,d,e,f,g,h,i,j,k,l,m,n,_⟩ =>⟨a,b,⟨q1,q2,q3,q4⟩,c,d,e,f,g,h,i,j,k,l,m,n⟩
 | 9 =>fun ⟨a,b,c,d,e,f,_⟩ =>⟨a,⟨b,c,d,e⟩,f⟩
 | 10 =>fun ⟨a,b,c,_⟩ =>⟨a,b,c⟩
 | 11 =>fun ⟨a,b,c,d,_⟩ =>⟨a,b,c,d⟩
 | 12 =>fun ⟨a1,a2,a3,a4,a5,a6,a7,a8,a9,a10,a11,b1,b2,b3,b4,b5,b6,c,d,e,f,_⟩ =>⟨⟨a1,a2,a3,a4,a5,a6,a7,a8,a9,a10,a11⟩,⟨b1,⟨b2,b3,b4,b5⟩,b6⟩,c,d,e,f⟩
 | 13 =>fun ⟨a1,a2,a3,a4,a5,a6,a7,a8,a9,a10,a11,_⟩ =>⟨a1,a2,a3,a4,a5,a6,a7,a8,a9,a10,a11⟩
 | 14 =>fun ⟨a,b,c,d,_⟩ =>⟨a,b,c,d⟩
 | 15 =>fun p =>p.1
 | 16 =>fun ⟨a,b,c,d,l1,l2,l3,l4,_⟩ =>⟨a,b,c,d,⟨l1,l2,l3,l4⟩⟩
 | 17 =>fun p =>p.1
 | 18 =>fun p =>p.1
 | 19 =>fun ⟨a,b,c,d,_⟩ =>⟨a,b,c,d⟩
 | 20 =>fun ⟨a1,a2,a3,a4,a5,a6,a7,a8,a9,a10,a11,_⟩ =>⟨a1,a2,a3,a4,a5,a6,a7,a8,a9,a10,a11⟩
 | 21 =>fun ⟨a0,a1,a2,a3,a4,a5,a6,a7,a8,a9,a10,a11,a12,_⟩ =>⟨a0,a1,a2,a3,a4,a5,a6,a7,a8,a9,a10,a11,a12⟩
 | 22 =>fun p =>p.1
 | 23 =>fun ⟨a0,a1,a2,_⟩ =>⟨a0,a1,a2⟩
 | 24 =>fun ⟨a0,a1,a2,a3,a4,a5,a6,a7,a8,a9,a10,_⟩ =>⟨a0,a1,a2,a3,a4,a5,a6,a7,a8,a9,a10⟩
 | 25 =>fun ⟨a0,a1,_⟩ =>⟨a0,a1⟩
 | 26 =>fun ⟨a0,a1,a2,a3,a4,a5,a6,_⟩ =>⟨a0,a1,a2,a3,a4,a5,a6⟩
 | 27 =>fun ⟨a0,a1,a2,a3,a4,a5,a6,a7,a8,a9,a10,a11,a12,a13,a14,a15,a16,a17,a18,a19,a20,a21,a22,a23,a24,a25,_⟩ =>⟨⟨a0,a1,a2,a3,a4,a5,a6,a7,a8,a9,a10⟩,⟨a11,a12,a13,a14,a15,a16,a17,a18,a19,a20,a21⟩,a22,a23,a24,a25⟩
 | 28 =>fun p =>p.1
 | 31 =>fun ⟨a0,a1,a2,a3,_⟩ =>⟨a0,a1,a2,a3⟩
 | 60 =>fun ⟨a0,a1,a2,a3,a4,_⟩ =>⟨a0,a1,a2,a3,a4⟩
 | 61 =>fun ⟨a0,a1,a2,a3,a4,a5,a6,a7,_⟩ =>⟨⟨a0,a1,a2,a3,a4⟩,a5,a6,a7⟩
 | 62 =>fun ⟨a0,a1,a2,a3,a4,a5,a6,a7,a8,a9,_⟩ =>⟨a0,a1,a2,a3,a4,⟨a5,a6,a7,a8,a9⟩⟩
 | 63 =>fun ⟨a0,a1,a2,_⟩ =>⟨a0,a1,a2⟩
 | 64 =>fun ⟨a0,a1,a2,a3,a4,a5,a6,a7,a8,a9,a10,a11,a12,a13,a14,a15,_⟩ =>⟨⟨a0,a1,a2,a3,a4,a5,a6,a7,a8,a9,a10⟩,a11,a12,⟨a13,a14⟩,a15⟩
 | 65 =>fun ⟨a0,a1,_⟩ =>⟨a0,a1⟩
 | 66 =>fun ⟨a0,a1,a2,a3,a4,_⟩ =>⟨a0,a1,a2,a3,a4⟩
 | 67 =>fun ⟨a0,a1,a2,a3,a4,a5,_⟩ =>⟨a0,a1,a2,a3,a4,a5⟩
 | 68 =>fun ⟨a0,a1,a2,_⟩ =>⟨a0,a1,a2⟩
 | 69 =>fun ⟨a0,a1,_⟩ =>⟨a0,a1⟩
 | 70 =>fun ⟨a0,a1,a2,a3,a4,a5,a6,_⟩ =>⟨a0,a1,a2,a3,a4,a5,a6⟩
 | 71 =>fun ⟨a0,a1,a2,a3,a4,a5,a6,a7,a8,a9,a10,_⟩ =>⟨a0,a1,a2,a3,a4,a5,⟨a6,a7,a8,a9,a10⟩⟩
 | 72 =>fun ⟨a0,a1,a2,a3,a4,a5,a6,a7,a8,a9,a10,a11,a12,a13,a14,a15,a16,_⟩ =>⟨⟨a0,a1,a2,a3,a4,a5,a6,a7,a8,a9,a10⟩,a11,a12,a13,a14,⟨a15,a16⟩⟩
 | 73 =>fun p =>p.1
 | 29 =>fun _ =>()
 | 30 =>fun _ =>()
 | 32 =>fun _ =>()
 | 33 =>fun _ =>()
 | 34 =>fun _ =>()
 | 35 =>fun _ =>()
 | 36 =>fun _ =>()
 | 37 =>fun _ =>()
 | 38 =>fun _ =>()
 | 39 =>fun _ =>()
 | 40 =>fun _ =>()
 | 41 =>fun _ =>()
 | 42 =>fun _ =>()
 | 43 =>fun _ =>()
 | 44 =>fun _ =>()
 | 45 =>fun _ =>()
 | 46 =>fun _ =>()
 | 47 =>fun _ =>()
 | 48 =>fun _ =>()
 | 49 =>fun _ =>()
 | 50 =>fun _ =>()
 | 51 =>fun _ =>()
 | 52 =>fun _ =>()
 | 53 =>fun _ =>()
 | 54 =>fun _ =>()
 | 55 =>fun _ =>()
 | 56 =>fun _ =>()
 | 57 =>fun _ =>()
 | 58 =>fun _ =>()
 | 59 =>fun _ =>()
 | _+74 =>fun _ =>()
def dfR:(c:Nat)→TR c
 | 0 =>(default:Int)
 | 1 =>(default:Int)
 | 2 =>(default:Ev)
 | 3 =>(default:Ins)
 | 4 =>(default:Sub)
 | 5 =>(default:EntV)
 | 6 =>⟨0,default⟩
 | 7 =>(default:RecV)
 | 8 =>(default:FrV)
 | 9 =>(default:MemV)
 | 10 =>(default:ResV)
 | 11 =>⟨[],false,0,0⟩
 | 12 =>⟨⟨0,0,0,0,0,0,0,0,0,[],[]⟩,default,0,0,[],[]⟩
 | 13 =>⟨0,0,0,0,0,0,0,0,0,[],[]⟩
 | 14 =>(default:QV)
 | 15 =>⟨[],false,0,0⟩
 | 16 =>⟨⟨⟨0,0,0,0,0,0,0,0,0,[],[]⟩,default,0,0,[],[]⟩,[],0,[],default⟩
 | 17 =>(default:Int)
 | 18 =>[]
 | 19 =>⟨[],[],0,false⟩
 | 20 =>⟨0,0,0,0,0,0,0,0,0,[],[]⟩
 | 21 =>⟨0,0,0,0,0,0,0,0,0,0,0,0,0⟩
 | 22 =>[]
 | 23 =>⟨false,0,0⟩
 | 24 =>⟨0,0,0,0,0,0,0,0,0,0,0⟩
 | 25 =>⟨0,0⟩
 | 26 =>⟨0,0,0,0,0,[],false⟩
 | 27 =>⟨⟨0,0,0,0,0,0,0,0,0,[],[]⟩,⟨0,0,0,0,0,0,0,0,0,0,0⟩,default,⟨0,0⟩,[],[]⟩
 | 28 =>MV.nil
 | 31 =>⟨0,0,0,0⟩
 | 60 =>⟨0,0,0,0,0⟩
 | 61 =>⟨⟨0,0,0,0,0⟩,0,0,[]⟩
 | 62 =>⟨[],0,0,0,false,⟨0,0,0,0,0⟩⟩
 | 63 =>⟨0,0,0⟩
 | 64 =>⟨⟨0,0,0,0,0,0,0,0,0,[],[]⟩,[],[],⟨[],0⟩,0⟩
 | 65 =>⟨[],0⟩
 | 66 =>⟨0,0,0,0,0⟩
 | 67 =>⟨false,false,false,false,false,false⟩
 | 68 =>⟨0,0,0⟩
 | 69 =>⟨[],0⟩
 | 70 =>⟨0,0,0,[],0,[],0⟩
 | 71 =>⟨[],false,0,0,0,false,⟨0,0,0,0,0⟩⟩
 | 72 =>⟨⟨0,0,0,0,0,0,0,0,0,[],[]⟩,[],[],0,0,⟨[],0⟩⟩
 | 73 =>false
 | 29 =>()
 | 30 =>()
 | 32 =>()
 | 33 =>()
 | 34 =>()
 | 35 =>()
 | 36 =>()
 | 37 =>()
 | 38 =>()
 | 39 =>()
 | 40 =>()
 | 41 =>()
 | 42 =>()
 | 43 =>()
 | 44 =>()
 | 45 =>()
 | 46 =>()
 | 47 =>()
 | 48 =>()
 | 49 =>()
 | 50 =>()
 | 51 =>()
 | 52 =>()
 | 53 =>()
 | 54 =>()
 | 55 =>()
 | 56 =>()
 | 57 =>()
 | 58 =>()
 | 59 =>()
 | _+74 =>()
abbrev ahL (xs:List Int) (i:Int):Int:=atL (dfR 0:TR 0) xs i
abbrev aaf (xs:List Int) (i:Int):Int:=atL (dfR 1:TR 1) xs i
abbrev aa5 (xs:List Ev) (i:Int):Ev:=atL (dfR 2:TR 2) xs i
abbrev acA (xs:List Ins) (i:Int):Ins:=atL (dfR 3:TR 3) xs i
abbrev acK (xs:List Sub) (i:Int):Sub:=atL (dfR 4:TR 4) xs i
abbrev aBl (xs:List EntV) (i:Int):EntV:=atL (dfR 5:TR 5) xs i
abbrev aat (xs:List RecV) (i:Int):RecV:=atL (dfR 7:TR 7) xs i
abbrev asf (xs:List FrV) (i:Int):FrV:=atL (dfR 8:TR 8) xs i
abbrev agF (xs:List Int) (i:Int):Int:=atL (dfR 17:TR 17) xs i
abbrev ak7 (xs:List MaV) (i:Int):MaV:=atL (dfR 15:TR 15) xs i
theorem axD:∀ c p,toR c (ofR c p)=p
 | 0,_ =>rfl
 | 1,_ =>rfl
 | 2,_ =>rfl
 | 3,_ =>rfl
 | 4,_ =>rfl
 | 5,_ =>rfl
 | 6,_ =>rfl
 | 7,_ =>rfl
 | 8,_ =>rfl
 | 9,_ =>rfl
 | 10,_ =>rfl
 | 11,_ =>rfl
 | 12,_ =>rfl
 | 13,_ =>rfl
 | 14,_ =>rfl
 | 15,_ =>rfl
 | 16,_ =>rfl
 | 17,_ =>rfl
 | 18,_ =>rfl
 | 19,_ =>rfl
 | 20,_ =>rfl
 | 21,_ =>rfl
 | 22,_ =>rfl
 | 23,_ =>rfl
 | 24,_ =>rfl
 | 25,_ =>rfl
 | 26,_ =>rfl
 | 27,_ =>rfl
 | 28,_ =>rfl
 | 31,_ =>rfl
 | 60,_ =>rfl
 | 61,_ =>rfl
 | 62,_ =>rfl
 | 63,_ =>rfl
 | 64,_ =>rfl
 | 65,_ =>rfl
 | 66,_ =>rfl
 | 67,_ =>rfl
 | 68,_ =>rfl
 | 69,_ =>rfl
 | 70,_ =>rfl
 | 71,_ =>rfl
 | 72,_ =>rfl
 | 73,_ =>rfl
 | 29,_ =>rfl
 | 30,_ =>rfl
 | 32,_ =>rfl
 | 33,_ =>rfl
 | 34,_ =>rfl
 | 35,_ =>rfl
 | 36,_ =>rfl
 | 37,_ =>rfl
 | 38,_ =>rfl
 | 39,_ =>rfl
 | 40,_ =>rfl
 | 41,_ =>rfl
 | 42,_ =>rfl
 | 43,_ =>rfl
 | 44,_ =>rfl
 | 45,_ =>rfl
 | 46,_ =>rfl
 | 47,_ =>rfl
 | 48,_ =>rfl
 | 49,_ =>rfl
 | 50,_ =>rfl
 | 51,_ =>rfl
 | 52,_ =>rfl
 | 53,_ =>rfl
 | 54,_ =>rfl
 | 55,_ =>rfl
 | 56,_ =>rfl
 | 57,_ =>rfl
 | 58,_ =>rfl
 | 59,_ =>rfl
 | _+74,_ =>rfl
def lsR:(c c':Nat)→Option (PLift (TR c'=List (TR c)))
 | 3,18 =>some ⟨rfl⟩
 | 1,22 =>some ⟨rfl⟩
 | _,_ =>none
theorem aAy:∀ c c' h,lsR c c'=some h→∀ x,vwP TR MV (shR c') (toR c' x)=[.ro c (h.down▸x)]:=by
 intro c c' h hl x
 unfold lsR at hl
 split at hl
 ·rfl
 ·rfl
 ·cases hl
def aCq:MV→Option (Σ c:Nat,TR c)
 | .nil =>none
def mkR:(c:Nat)→TR c→Option MV
 | _,_ =>none
theorem aAw:∀ c x m,mkR c x=some m→aCq m=some ⟨c,x⟩:=by
 intro c x m h
 unfold mkR at h
 split at h<;>first | (cases h; rfl) | cases h
def aBw (td:List (Nat×TypeId)) (c:Nat):TypeId:=(get td c).getD 0
def kdR (td:List (Nat×TypeId)) (t:TypeId):List (Nat×TypeId)→Option Nat
 | [] =>none
 | p::l =>match Nat.beq p.2 t && Nat.beq (aBw td p.1) t with
 | true =>some p.1
 | false =>kdR td t l
theorem axo {td:List (Nat×TypeId)} {t:TypeId}:∀ {l:List (Nat×TypeId)} {c:Nat},kdR td t l=some c→aBw td c=t
 | [],_,h =>by cases h
 | p::l,c,h =>by
  unfold kdR at h
  split at h
  ·rename_i hb
   cases h
   simp only [Bool.and_eq_true] at hb
   exact Nat.eq_of_beq_eq_true hb.2
  ·exact axo h
def SR (tk:TypeId→Option Nat) (td:List (Nat×TypeId)):Shp:={ T:=TR,M:=MV,sh:=shR,to_:=toR,of:=ofR,ok:=axD,df:=dfR,tid:=aBw td,tk:=tk,spl:=aCq,nilM:=.nil,nilM_ok:=rfl,mkM:=mkR,mkM_ok:=aAw,kd:=fun t =>kdR td t td,kd_ok:=fun _ _ h =>axo h,ls:=lsR,ls_ok:=(fun c c' h e x =>Or.inl (aAy c c' h e x)) }
end
section
open Go Go.RowKit
set_option maxRecDepth 100000
def tkR:TypeId→Option Nat:=fun t =>get [(3,1),(4,73),(5,17),(23,22),(28,13),(40,2),(56,0),(58,31),(60,9),(63,12),(67,16),(73,66),(74,60),(83,19),(85,18),(87,3),(89,4),(91,15),(94,14),(96,8),(99,5),(109,65),(111,64),(113,61),(119,69),(121,72),(123,70),(128,71),(138,7),(142,11),(147,62),(151,67),(166,10),(174,68),(199,63)] t
def tdR:List (Nat×TypeId):=[]
abbrev SR1:=SR tkR tdR
theorem aaB:Tryz.prog.follows .mixedOrders=true:=by kernel_rfl
end
section
open Go Go.RowKit
section
variable {B:Nat} {w w':World} {L:List aai} {A:Option Addr} {n cap sz:Nat} {xs:List Value} {el:TypeId}
end
section
variable {α:Type} {enc:α→List Value} {sz B:Nat} {w:World} {A:Option Addr} {c:Nat} {xs:List α} {L:List aai}
theorem azM (hz:0<sz) (henc:∀ x,(enc x).length=sz) (hS:Sl enc sz w B A xs) (hc:xs.length≤c) (s:Sat B w L):Sat B w (roS enc sz A c xs::L):=by
 obtain ⟨h,H,hs⟩:=s
 refine ⟨acI (fun b o =>if b<B then (w.cell? ⟨b,o,none⟩).map .look else none) h,?_,_,h,?_,rfl,?_,hs⟩
 ·intro b o x hx
  unfold acI at hx
  by_cases hb:b<B
  ·simp only [if_pos hb] at hx
   cases hv:w.cell? ⟨b,o,none⟩ with
   | none =>rw [hv] at hx; exact H b o x hx
   | some v =>
    rw [hv] at hx
    obtain rfl:=Option.some.inj hx
    exact ⟨.inr trivial,hv⟩
  ·simp only [if_neg hb] at hx
   exact H b o x hx
 ·intro b o
  by_cases hb:b<B
  ·simp only [if_pos hb]
   cases hv:w.cell? ⟨b,o,none⟩ with
   | none =>exact .inl rfl
   | some v =>
    cases hh:h b o with
    | none =>exact .inr (.inl rfl)
    | some y =>
     obtain ⟨h1,h2⟩:=H b o y hh
     cases y with
     | cell v' =>exact absurd (h1.resolve_right id) (by omega)
     | obj v' =>exact absurd (h1.resolve_right id) (by omega)
     | look v' =>
      have h3:w.cell? ⟨b,o,none⟩=some v':=h2
      rw [hv] at h3
      obtain rfl:=Option.some.inj h3
      exact .inr (.inr ⟨v,rfl,rfl⟩)
  ·simp only [if_neg hb]; exact .inl rfl
 ·refine ⟨fun b o =>if b<B then (w.cell? ⟨b,o,none⟩).map .look else none,fun b o x hx =>⟨?_,hx⟩,fun u hu =>⟨⟨hS.1,fun hne =>?_⟩,hc⟩⟩
  ·by_cases hb:b<B
   ·simp only [if_pos hb] at hx
    cases hv:w.cell? ⟨b,o,none⟩ with
    | none =>rw [hv] at hx; cases hx
    | some v =>rw [hv] at hx; exact ⟨v,(Option.some.inj hx).symm⟩
   ·simp only [if_neg hb] at hx; cases hx
  ·obtain ⟨b,o,hA,hb,hcell⟩:=hS.2 hne
   have key:∀ (i:Nat) x,xs[i]?=some x→∀ (j:Nat) v,(enc x)[j]?=some v→u.cell? ⟨b,o+i*sz+j,none⟩=some v:=fun i x hx j v hv =>by
    have h1:=hcell i x hx j v hv
    exact hu b (o+i*sz+j) (.look v) (by simp only [if_pos hb,h1]; rfl)
   refine ⟨b,o,hA,?_,key⟩
   cases xs with
   | nil =>exact absurd rfl hne
   | cons x xs =>
    cases hx:enc x with
    | nil =>have:=henc x; rw [hx] at this; simp at this; omega
    | cons y ys =>exact alR (key 0 x rfl 0 y (by rw [hx]; rfl))
end
section
variable {S:Shp} {B:Nat} {w:World} {L:List aai} {v:Value}
theorem aka {f:Fl S.T S.M} {p:aai} (h0:∀ h,pcW S.kt (fun _ _ _ _ =>False) (fun _ _ _ _ _ =>False) f v h→p h) (h1:∀ n h,pcW S.kt (obW S.kt (pcN S.kt n)) (rwW S.kt (pcN S.kt n)) f v h→p h):∀ h,pcS S.kt f v h→p h:=fun h ⟨n,hn⟩ =>by
 cases n with
 | zero =>exact h0 h hn
 | succ n =>exact h1 n h hn
theorem aBy {k:IntKind} {x:Int} (s:Sat B w (pcS S.kt (.i k x) v::L)):v=.int k x∧Sat B w L:=by
 have s1:Sat B w (ajX (v=.int k x)::L):=abE (aka (f:=.i k x) (fun _ h =>h) fun _ _ h =>h) s
 obtain ⟨h,H,k1,k2,a,e,h1,h2⟩:=s1
 exact ⟨h1,s.drop⟩
theorem azL {c:Nat} {xs:List (S.T c)} (s:Sat B w (pcS S.kt (.ro c xs) v::L)):∃ A cap,v=.slice A xs.length cap∧Sl (ad8 S.kt c) (S.kt.sz c) w w.heap.size A xs:=by
 have s1:Sat B w ((fun h =>∃ A cap,v=.slice A xs.length cap∧roS (ad8 S.kt c) (S.kt.sz c) A cap xs h)::L):=abE (aka (f:=.ro c xs) (fun _ h =>h) fun _ _ h =>h) s
 obtain ⟨h,H,k1,k2,a,e,⟨A,cap,e1,h1⟩,h2⟩:=s1
 have s2:Sat B w (roS (ad8 S.kt c) (S.kt.sz c) A cap xs::L):=⟨h,H,k1,k2,a,e,h1,h2⟩
 exact ⟨A,cap,e1,(aoT s2 List.mem_cons_self).1⟩
theorem azK {c:Nat} {xss:List (List (S.T c))} (s:Sat B w (pcS S.kt (.rr c xss) v::L)):∃ A cap,v=.slice A xss.length cap∧xss.length≤9223372036854775807∧∃ ps:List (Option Addr×Nat),
  ∀ (i:Nat) xs,xss[i]?=some xs→∃ a,ps[i]?=some a∧(Sl (ad8 S.kt c) (S.kt.sz c) w w.heap.size a.1 xs∧xs.length≤a.2)∧∃ b o,A=some ⟨b,o,none⟩∧b<w.heap.size∧w.cell? ⟨b,o+i,none⟩=some (.slice a.1 xs.length a.2):=by
 have s1:Sat B w ((fun h =>∃ A cap,v=.slice A xss.length cap∧rrS (ad8 S.kt c) (S.kt.sz c) A cap xss h)::L):=abE (aka (f:=.rr c xss) (fun _ h =>h) fun _ _ h =>h) s
 obtain ⟨h,H,k1,k2,a,e,⟨A,cap,e1,ps,h1⟩,h2⟩:=s1
 have s2:Sat B w (afh _::L):=⟨h,H,k1,k2,a,e,h1,h2⟩
 have h3:=akc s2 List.mem_cons_self
 exact ⟨A,cap,e1,h3.1.1,ps,h3.2⟩
theorem asJ {f:Fl S.T S.M} {fs:List (Fl S.T S.M)} {us:List Value} (s:Sat B w (fsS (pcS S.kt) (f::fs) us++L)):∃ u us',us=u::us'∧Sat B w (pcS S.kt f u::(fsS (pcS S.kt) fs us'++L)):=by
 cases us with
 | nil =>exact aa9 s
 | cons u us' =>exact ⟨u,us',rfl,s⟩
theorem axV {us:List Value} (s:Sat B w (fsS (pcS S.kt) [] us++L)):us=[]∧Sat B w L:=by
 cases us with
 | nil =>exact ⟨rfl,s⟩
 | cons u us' =>exact aa9 s
theorem aio {k:IntKind} {x:Int} {fs:List (Fl S.T S.M)} {us:List Value} (s:Sat B w (fsS (pcS S.kt) (.i k x::fs) us++L)):∃ us',us=.int k x::us'∧Sat B w (fsS (pcS S.kt) fs us'++L):=by
 obtain ⟨u,us',e,s1⟩:=asJ s
 obtain ⟨e2,s2⟩:=aBy s1
 subst e2
 exact ⟨us',e,s2⟩
def atq:List (Fl S.T S.M)→Bool
 | [] =>true
 | .i ..::l =>atq l
 | .b ..::l =>atq l
 | _ =>false
theorem ai5:∀ (fs:List (Fl S.T S.M)) (h:Hp),atq fs=true→abG (fsS (pcS S.kt) fs (fs.map flV)) h
 | [],_,_ =>trivial
 | .i k x::l,h,hp =>⟨fun _ _ =>none,h,fun _ _ =>.inl rfl,by funext a b; rfl,⟨0,rfl⟩,ai5 l h hp⟩
 | .b x::l,h,hp =>⟨fun _ _ =>none,h,fun _ _ =>.inl rfl,by funext a b; rfl,⟨0,rfl⟩,ai5 l h hp⟩
theorem azN {k:IntKind} {x:Int} (s:Sat B w L):Sat B w (pcS S.kt (.i k x) (.int k x)::L):=abQ s fun _ =>⟨0,rfl⟩
end
section
variable {S:Shp} {B:Nat} {w:World} {L:List aai}
theorem anC {c:Nat} (hp:∀ x,atq (S.kt.vw c x)=true):∀ (xs:List (S.T c)) (h:Hp),abG (abN S.kt (pcS S.kt) c xs (xs.map (ad8 S.kt c))) h
 | [],_ =>trivial
 | x::xs,h =>aap.2 ⟨fun _ _ =>none,h,fun _ _ =>.inl rfl,by funext a b; rfl,ai5 _ _ (hp x),anC hp xs h⟩
theorem amk {c cap:Nat} {A:Option Addr} {xs:List (S.T c)} (hp:∀ x,atq (S.kt.vw c x)=true) (s:Sat B w (adq A xs.length cap (S.kt.sz c) (xs.flatMap (ad8 S.kt c))::L)):Sat B w (pcS S.kt (.row c xs) (.slice A xs.length cap)::L):=by
 refine abE (fun k hk =>aaU.2 (show pcW S.kt (obS S.kt) (rwS S.kt) (.row c xs) _ k from ⟨A,cap,rfl,ab7.2 ⟨xs.map (ad8 S.kt c),?_⟩⟩)) s
 have e:(xs.map (ad8 S.kt c)).flatten=xs.flatMap (ad8 S.kt c):=by rw [List.flatMap_def]
 rw [e]
 exact ⟨k,fun _ _ =>none,fun _ _ =>.inr (.inl rfl),by funext a b; unfold acI; cases k a b<;>rfl,hk,anC hp xs _⟩
end
section
variable {B:Nat} {w:World} {L:List aai} {v:Value}
theorem axW {c:Cfg} (s:Sat B w (avp SR1 13 c v::L)):∃ p,v=akh c p∧aii w w.heap.size c p∧Sat B w L:=by
 obtain ⟨us,e,s0⟩:=aoS s
 have s0':Sat B w (fsS (pcS SR1.kt) [.i .i64 c.workers,.i .i64 c.levels,.i .i64 c.classes,.i .i64 c.tasks,.i .i64 c.deque,.i .i64 c.heap,.i .i64 c.batch,.i .i64 c.age,.i .i64 c.patience,.rr 3 c.progs,.ro 4 c.subs] us++L):=s0
 obtain ⟨us1,rfl,s1⟩:=aio s0'
 obtain ⟨us2,rfl,s2⟩:=aio s1
 obtain ⟨us3,rfl,s3⟩:=aio s2
 obtain ⟨us4,rfl,s4⟩:=aio s3
 obtain ⟨us5,rfl,s5⟩:=aio s4
 obtain ⟨us6,rfl,s6⟩:=aio s5
 obtain ⟨us7,rfl,s7⟩:=aio s6
 obtain ⟨us8,rfl,s8⟩:=aio s7
 obtain ⟨us9,rfl,s9⟩:=aio s8
 obtain ⟨u10,us10,rfl,s10⟩:=asJ s9
 obtain ⟨A,ca,rfl,hl,ps,hA⟩:=azK s10
 obtain ⟨u11,us11,rfl,s11⟩:=asJ s10.drop
 obtain ⟨A2,ca2,rfl,hA2⟩:=azL s11
 obtain ⟨rfl,s12⟩:=axV s11.drop
 refine ⟨⟨A,ca,A2,ca2⟩,e,⟨⟨hl,fun hne =>?_⟩,hA2⟩,s12⟩
 cases hp:c.progs with
 | nil =>exact absurd hp hne
 | cons x xs =>
  obtain ⟨a0,_,_,b,o,e1,hb,_⟩:=hA 0 x (by rw [hp]; rfl)
  refine ⟨b,o,e1,hb,fun i p hi =>?_⟩
  obtain ⟨a1,g1,g2,b',o',e2,hb',hc'⟩:=hA i p (by rw [hp]; exact hi)
  rw [e1] at e2
  cases e2
  exact ⟨a1.1,a1.2,hc',g2.1⟩
end
end
section
open Go.RowKit
set_option maxHeartbeats 400000 in
theorem aen (a b c:Int) (w:World) :
  Calls Tryz.prog 67 #[.int .i64 a,.int .i64 b,.int .i64 c] w fun e w' =>e=.returned (.bool (inB a b c))∧w=w':=by
 unfold inB
 by_cases h:b≤a
 all_goals
  go_enter Tryz.func67,Tryz.ntmps67
  go_wp2
  go_ret
  all_goals (simp [*]<;>omega)
set_option maxHeartbeats 400000 in
theorem aei (a b c:Int) (w:World) :
  Calls Tryz.prog 63 #[.int .i64 a,.int .i64 b,.int .i64 c] w fun e w' =>e=.returned (.bool (inB a b c))∧w=w':=by
 unfold inB
 by_cases h:b≤a
 all_goals
  go_enter Tryz.func63,Tryz.ntmps63
  go_wp2
  go_ret
  all_goals (simp [*]<;>omega)
set_option maxHeartbeats 1000000 in
theorem afI (c:Cfg) (l:CfgAt) (w:World) :
  Calls Tryz.prog 38 #[akh c l] w fun e w' =>e=.returned (.bool (ahV c))∧Below w.heap.size w w':=by
 unfold akh ahV
 by_cases hl:c.levels<8
 all_goals
  go_enter Tryz.func38,Tryz.ntmps38
  go_wp2_with (first | (go_at_call 67; refine (aen _ _ _ _).mono ?_; rintro e w' ⟨rfl,rfl⟩))
  all_goals go_ret
  all_goals simp [*]
  all_goals exact (Below.refl _ _).alloc (Nat.le_refl _) _
set_option maxHeartbeats 1000000 in
theorem ajU (c:Cfg) (l:CfgAt) (x:Ins) (w:World) (h1:1≤c.levels) (h2:c.levels≤64) (hp:c.progs.length≤9223372036854775807) :
  Calls Tryz.prog 68 #[akh c l,.agg #[.int .i64 x.op,.int .i64 x.a,.int .i64 x.b]] w fun e w' =>e=.returned (.bool (ahI c.levels c.progs.length x))∧Below w.heap.size w w':=by
 unfold akh
 go_enter Tryz.func68,Tryz.ntmps68
 go_wp2_with (first | (go_at_call 67; refine (aen _ _ _ _).mono ?_; rintro e w' ⟨rfl,rfl⟩))
 all_goals go_ret
 all_goals refine ⟨aqf (by unfold ahI; simp_all),?_⟩
 all_goals exact ((Below.refl _ _).alloc (Nat.le_refl _) _).alloc (by simp) _
set_option maxHeartbeats 1000000 in
theorem ajG (c:Cfg) (l:CfgAt) (x:Ins) (w:World) (h1:1≤c.levels) (h2:c.levels≤64) (hp:c.progs.length≤9223372036854775807) :
  Calls Tryz.prog 64 #[akh c l,.agg #[.int .i64 x.op,.int .i64 x.a,.int .i64 x.b]] w fun e w' =>e=.returned (.bool (ahI c.levels c.progs.length x))∧Below w.heap.size w w':=by
 unfold akh
 go_enter Tryz.func64,Tryz.ntmps64
 go_wp2_with (first | (go_at_call 63; refine (aei _ _ _ _).mono ?_; rintro e w' ⟨rfl,rfl⟩))
 all_goals go_ret
 all_goals refine ⟨aqf (by unfold ahI; simp_all),?_⟩
 all_goals exact ((Below.refl _ _).alloc (Nat.le_refl _) _).alloc (by simp) _
set_option maxHeartbeats 1000000 in
theorem afD (c:Cfg) (l:CfgAt) (w:World) :
  Calls Tryz.prog 62 #[akh c l] w fun e w' =>e=.returned (.bool (ahV c))∧Below w.heap.size w w':=by
 unfold akh ahV
 by_cases hl:c.levels<8
 all_goals
  go_enter Tryz.func62,Tryz.ntmps62
  go_wp2_with (first | (go_at_call 63; refine (aei _ _ _ _).mono ?_; rintro e w' ⟨rfl,rfl⟩))
  all_goals go_ret
  all_goals simp [*]
  all_goals exact (Below.refl _ _).alloc (Nat.le_refl _) _
theorem afw {lv np:Int} {ps:List (List Ins)} {k:Nat} (hk:k<ps.length) (h:abl lv np (ps.drop k)=abl lv np ps) (hl:32<ps[k].length):abl lv np ps=2:=by
 rw [← h,List.drop_eq_getElem_cons hk]; simp [abl,hl]
theorem afU {lv np:Int} {ps:List (List Ins)} {k j:Nat} (hk:k<ps.length) (h:abl lv np (ps.drop k)=abl lv np ps) (hl:ps[k].length≤32) (hj:j<ps[k].length) (hb:ahI lv np ps[k][j]=false):abl lv np ps=1:=by
 rw [← h,List.drop_eq_getElem_cons hk]
 have:ps[k].all (ahI lv np)=false:=by
  rw [List.all_eq_false]; exact ⟨_,List.getElem_mem hj,by simp [hb]⟩
 simp [abl,Nat.not_lt.2 hl,this]
theorem afv {lv np:Int} {ps:List (List Ins)} {k:Nat} (hk:k<ps.length) (h:abl lv np (ps.drop k)=abl lv np ps) (hl:ps[k].length≤32) (ha:(ps[k].take ps[k].length).all (ahI lv np)=true):abl lv np (ps.drop (k+1))=abl lv np ps:=by
 rw [← h,List.drop_eq_getElem_cons hk]
 rw [List.take_length] at ha
 simp [abl,Nat.not_lt.2 hl,ha]
theorem aiZ {α:Type} {f:α→Bool} {l:List α} {j:Nat} (hj:j<l.length) (h:(l.take j).all f=true) (hf:f l[j]=true):(l.take (j+1)).all f=true:=by
 rw [List.take_succ_eq_append_getElem hj,List.all_append,h]; simp [hf]
def aCB (lv np:Int) (ps:List (List Ins)) (k:Nat):Prop:=abl lv np (ps.drop k)=abl lv np ps
def aBs (lv np:Int) (p:List Ins) (k:Nat):Prop:=(p.take k).all (ahI lv np)=true
@[reducible] def ag8 (c : Cfg) (l : CfgAt) : Obj := .cells #[.int .i64 c.workers,.int .i64 c.levels,.int .i64 c.classes,.int .i64 c.tasks,.int .i64 c.deque,.int .i64 c.heap,.int .i64 c.batch,.int .i64 c.age,.int .i64 c.patience,.slice l.pa c.progs.length l.pc,.slice l.sa c.subs.length l.sc] 28
set_option maxHeartbeats 2000000 in
theorem ag7 (c:Cfg) (l:CfgAt) (w:World) (h1:1≤c.levels) (h2:c.levels≤64) (hc:aii w w.heap.size c l) :
  Calls Tryz.prog 39 #[akh c l] w fun e w' =>e=.returned (.int .i64 (acX c))∧Below w.heap.size w w':=by
 have hlen:=hc.1.1
 by_cases hp:inB (c.progs.length:Int) 1 32=true
 ·have hfin:acX c=abl c.levels c.progs.length c.progs:=by simp [acX,hp]
  have Hfin:=Lib.hid hfin
  clear hfin
  unfold akh
  go_enter Tryz.func39,Tryz.ntmps39
  go_wp2_with (first | (go_at_call 67; refine (aen _ _ _ _).mono ?_; rintro e w' ⟨rfl,rfl⟩))
  go_loopw [15] (fun i wr =>∃ k:Nat,k≤c.progs.length∧i=.int .i64 k∧aCB c.levels c.progs.length c.progs k∧Below (w.heap.size+1) (w.alloc (ag8 c l)) wr) (fun i _ =>c.progs.length-(intOf i).toNat)
  case atStart =>exact ⟨0,Nat.zero_le _,rfl,rfl,Below.refl _ _⟩
  case round =>
   obtain ⟨k,hk,rfl,hi,hb⟩:=hrel
   have hB:w.heap.size<wr.heap.size:=by have:=hb.size; simp at this; omega
   have hbw:Below w.heap.size w wr:=((Below.refl _ _).alloc (Nat.le_refl _) _).trans (hb.mono (by omega))
   by_cases hlt:k<c.progs.length
   ·obtain ⟨b,o,hpa,hbb,Ai,ci,hcell,hsl⟩:=hc.1.at_ hlt
    have hln:=hsl.len
    obtain ⟨hcs,hfz⟩:=ajy hb
    by_cases hlong:32<c.progs[k].length
    ·have hres:=Lib.hid (afw hlt hi hlong)
     obtain ⟨pa,pc,sa,sc⟩:=l
     obtain rfl:pa=some ⟨b,o,none⟩:=hpa
     go_wp2
     go_ret
     exact ⟨acG (by rw [Hfin.out,hres.out]),hbw⟩
    ·obtain ⟨pa,pc,sa,sc⟩:=l
     obtain rfl:pa=some ⟨b,o,none⟩:=hpa
     go_wp2
     obtain ⟨wo,rfl⟩:∃ wo:World,wo=wr:=⟨_,rfl⟩
     clear hcs hfz
     go_loopw [24] (fun i ws =>∃ j:Nat,j≤c.progs[k].length∧i=.int .i64 j∧aBs c.levels c.progs.length c.progs[k] j∧Below (w.heap.size+1) (w.alloc (ag8 c ⟨some ⟨b,o,none⟩,pc,sa,sc⟩)) ws) (fun i _ =>c.progs[k].length-(intOf i).toNat)
     case atStart =>exact ⟨0,Nat.zero_le _,rfl,by simp [aBs],hb⟩
     case round =>
      obtain ⟨j,hj,rfl,hq,hb2⟩:=hrel
      have hB2:w.heap.size<wr.heap.size:=by have:=hb2.size; simp at this; omega
      have hbw2:Below w.heap.size w wr:=((Below.refl _ _).alloc (Nat.le_refl _) _).trans (hb2.mono (by omega))
      by_cases hjt:j<c.progs[k].length
      ·obtain ⟨b2,o2,hpa2,hbb2,hcc⟩:=hsl.at_ hjt
       obtain rfl:Ai=some ⟨b2,o2,none⟩:=hpa2
       obtain ⟨hcs,hfz⟩:=ajy hb2
       have c0:w.cell? ⟨b2,o2+j*3,none⟩=some (.int .i64 c.progs[k][j].op):=hcc j hjt 0 _ rfl
       have c1:w.cell? ⟨b2,o2+j*3+1,none⟩=some (.int .i64 c.progs[k][j].a):=hcc j hjt 1 _ rfl
       have c2:w.cell? ⟨b2,o2+j*3+2,none⟩=some (.int .i64 c.progs[k][j].b):=hcc j hjt 2 _ rfl
       by_cases hok:ahI c.levels c.progs.length c.progs[k][j]=true
       ·go_wp2_with (first | (go_at_call 68; refine (ajU c ⟨some ⟨b,o,none⟩,pc,sa,sc⟩ c.progs[k][j] _ h1 h2 hlen).mono ?_; rintro e w' ⟨rfl,hbv⟩))
        go_roundw
        case rel =>exact ⟨j+1,by omega,by go_num,aiZ hjt hq hok,(hb2.alloc (by omega) _).trans (hbv.mono (by simp; omega))⟩
        case measure =>simp [intOf]; omega
       ·have hok':ahI c.levels c.progs.length c.progs[k][j]=false:=by simpa using hok
        clear hok
        have hres:=Lib.hid (afU hlt hi (by omega) hjt hok')
        go_wp2_with (first | (go_at_call 68; refine (ajU c ⟨some ⟨b,o,none⟩,pc,sa,sc⟩ c.progs[k][j] _ h1 h2 hlen).mono ?_; rintro e w' ⟨rfl,hbv⟩))
        go_ret
        exact ⟨acG (by rw [Hfin.out,hres.out]),((Below.refl _ _).alloc (Nat.le_refl _) _).trans (((hb2.alloc (by omega) _).trans (hbv.mono (by simp; omega))).mono (by omega))⟩
      ·obtain ⟨hcs,hfz⟩:=ajy hb2
       go_wp2
       go_roundw
       case rel =>exact ⟨k+1,by omega,by go_num,afv hlt hi (by omega) (by
        have e:j=c.progs[k].length:=by omega
        subst e; exact hq),hb2⟩
       case measure =>simp [intOf]; omega
   ·go_wp2
    go_ret
    exact ⟨acG (by
     have hi':abl c.levels c.progs.length (c.progs.drop k)=abl c.levels c.progs.length c.progs:=hi
     rw [Hfin.out,← hi',List.drop_eq_nil_of_le (by omega)]; rfl),hbw⟩
 ·have hfin:acX c=2:=by simp [acX,hp]
  have Hfin:=Lib.hid hfin
  clear hfin
  unfold akh
  go_enter Tryz.func39,Tryz.ntmps39
  go_wp2_with (first | (go_at_call 67; refine (aen _ _ _ _).mono ?_; rintro e w' ⟨rfl,rfl⟩))
  go_ret
  exact ⟨acG Hfin.out.symm,(Below.refl _ _).alloc (Nat.le_refl _) _⟩
theorem agu {lv np:Int} {ss:List Sub} {k:Nat} (hk:k<ss.length) (h:acF lv np (ss.drop k)=acF lv np ss) {e:Int} (he:ajE lv np ss[k]=e) (hne:e≠0):acF lv np ss=e:=by
 subst he
 rw [← h,List.drop_eq_getElem_cons hk]; simp [acF,hne]
theorem afN {lv np:Int} {ss:List Sub} {k:Nat} (hk:k<ss.length) (h:acF lv np (ss.drop k)=acF lv np ss) (he:ajE lv np ss[k]=0):acF lv np (ss.drop (k+1))=acF lv np ss:=by
 rw [← h,List.drop_eq_getElem_cons hk]; simp [acF,he]
def aCA (lv np:Int) (ss:List Sub) (k:Nat):Prop:=acF lv np (ss.drop k)=acF lv np ss
set_option maxHeartbeats 2000000 in
theorem apL (c:Cfg) (l:CfgAt) (w:World) (h1:1≤c.levels) (h2:c.levels≤64) (hc:aii w w.heap.size c l) :
  Calls Tryz.prog 40 #[akh c l] w fun e w' =>e=.returned (.int .i64 (adU c))∧Below w.heap.size w w':=by
 have hlen:=hc.1.1
 have hlen2:=hc.2.1
 by_cases hp:64<c.subs.length
 ·have hfin:adU c=2:=by simp [adU,hp]
  have Hfin:=Lib.hid hfin
  clear hfin
  unfold akh
  go_enter Tryz.func40,Tryz.ntmps40
  go_wp2
  go_ret
  exact ⟨acG Hfin.out.symm,(Below.refl _ _).alloc (Nat.le_refl _) _⟩
 ·have hfin:adU c=acF c.levels c.progs.length c.subs:=by simp [adU,hp]
  have Hfin:=Lib.hid hfin
  clear hfin
  unfold akh
  go_enter Tryz.func40,Tryz.ntmps40
  go_wp2
  go_loopw [12] (fun i wr =>∃ k:Nat,k≤c.subs.length∧i=.int .i64 k∧aCA c.levels c.progs.length c.subs k∧Below (w.heap.size+1) (w.alloc (ag8 c l)) wr) (fun i _ =>c.subs.length-(intOf i).toNat)
  case atStart =>exact ⟨0,Nat.zero_le _,rfl,rfl,Below.refl _ _⟩
  case round =>
   obtain ⟨k,hk,rfl,hi,hb⟩:=hrel
   have hB:w.heap.size<wr.heap.size:=by have:=hb.size; simp at this; omega
   have hbw:Below w.heap.size w wr:=((Below.refl _ _).alloc (Nat.le_refl _) _).trans (hb.mono (by omega))
   obtain ⟨hcs,hfz⟩:=ajy hb
   by_cases hlt:k<c.subs.length
   ·obtain ⟨b,o,hpa,hbb,hcc⟩:=hc.2.at_ hlt
    obtain ⟨pa,pc,sa,sc⟩:=l
    obtain rfl:sa=some ⟨b,o,none⟩:=hpa
    have c0:w.cell? ⟨b,o+k*3,none⟩=some (.int .i64 c.subs[k].prog):=hcc k hlt 0 _ rfl
    have c1:w.cell? ⟨b,o+k*3+1,none⟩=some (.int .i64 c.subs[k].level):=hcc k hlt 1 _ rfl
    have c2:w.cell? ⟨b,o+k*3+2,none⟩=some (.int .i64 c.subs[k].deadline):=hcc k hlt 2 _ rfl
    have hse:ajE c.levels c.progs.length c.subs[k]=if !inB c.subs[k].prog 0 (c.progs.length-1) then 3 else if !inB c.subs[k].level 0 (c.levels-1) || !inB c.subs[k].deadline 0 16777215 then 1 else 0:=rfl
    have Hse:=Lib.hid hse
    clear hse
    have bad:=fun e he hne =>Lib.hid (agu (e:=e) hlt hi he hne)
    by_cases g1:inB c.subs[k].prog 0 (c.progs.length-1)=true
    ·by_cases g2:inB c.subs[k].level 0 (c.levels-1)=true
     ·by_cases g3:inB c.subs[k].deadline 0 16777215=true
      ·go_wp2_with (first | (go_at_call 67; refine (aen _ _ _ _).mono ?_; rintro e w' ⟨rfl,rfl⟩))
       go_roundw
       case rel =>exact ⟨k+1,by omega,by go_num,afN hlt hi (by rw [Hse.out]; simp [g1,g2,g3]),hb.alloc (by omega) _⟩
       case measure =>simp [intOf]; omega
      ·go_wp2_with (first | (go_at_call 67; refine (aen _ _ _ _).mono ?_; rintro e w' ⟨rfl,rfl⟩))
       go_ret
       exact ⟨acG (by rw [Hfin.out,(bad 1 (by rw [Hse.out]; simp [g1,g2,g3]) (by omega)).out]),hbw.alloc (by omega) _⟩
     ·go_wp2_with (first | (go_at_call 67; refine (aen _ _ _ _).mono ?_; rintro e w' ⟨rfl,rfl⟩))
      go_ret
      exact ⟨acG (by rw [Hfin.out,(bad 1 (by rw [Hse.out]; simp [g1,g2]) (by omega)).out]),hbw.alloc (by omega) _⟩
    ·go_wp2_with (first | (go_at_call 67; refine (aen _ _ _ _).mono ?_; rintro e w' ⟨rfl,rfl⟩))
     go_ret
     exact ⟨acG (by rw [Hfin.out,(bad 3 (by rw [Hse.out]; simp [g1]) (by omega)).out]),hbw.alloc (by omega) _⟩
   ·go_wp2
    go_ret
    exact ⟨acG (by
     have hi':acF c.levels c.progs.length (c.subs.drop k)=acF c.levels c.progs.length c.subs:=hi
     rw [Hfin.out,← hi',List.drop_eq_nil_of_le (by omega)]; rfl),hbw⟩
set_option maxHeartbeats 2000000 in
theorem aox (c:Cfg) (l:CfgAt) (w:World) (hc:aii w w.heap.size c l) :
  Calls Tryz.prog 24 #[akh c l] w fun e w' =>e=.returned (.int .i64 (adD c))∧Below w.heap.size w w':=by
 by_cases hn:ahV c=true
 ·obtain ⟨_,_,h1,h2,_⟩:=ah6 hn
  by_cases hp:acX c=0
  ·have hfin:adD c=adU c:=by simp [adD,hn,hp]
   have Hfin:=Lib.hid hfin
   clear hfin
   unfold akh
   go_enter Tryz.func24,Tryz.ntmps24
   go_wp2_with fail
   refine (afI c l _).mono ?_; rintro e w1 ⟨rfl,hb1⟩
   obtain ⟨hc1,hf1⟩:=ajy hb1
   have hw1:=aeS hb1
   go_wp2_with fail
   refine (ag7 c l _ h1 h2 (hc.up hw1)).mono ?_; rintro e w2 ⟨rfl,hb2⟩
   have hw2:=afX hw1 hb2
   obtain ⟨hc2,hf2⟩:=ajy (afX hb1 hb2)
   clear hc1 hf1
   go_wp2_with fail
   refine (apL c l _ h1 h2 (hc.up hw2)).mono ?_; rintro e w3 ⟨rfl,hb3⟩
   go_wp2_with fail
   go_ret
   exact ⟨acG Hfin.out.symm,afX hw2 hb3⟩
  ·have hfin:adD c=acX c:=by simp [adD,hn,hp]
   have Hfin:=Lib.hid hfin
   have hp':(acX c == 0)=false:=by simpa using hp
   clear hfin hp
   unfold akh
   go_enter Tryz.func24,Tryz.ntmps24
   go_wp2_with fail
   refine (afI c l _).mono ?_; rintro e w1 ⟨rfl,hb1⟩
   obtain ⟨hc1,hf1⟩:=ajy hb1
   have hw1:=aeS hb1
   go_wp2_with fail
   refine (ag7 c l _ h1 h2 (hc.up hw1)).mono ?_; rintro e w2 ⟨rfl,hb2⟩
   have hw2:=afX hw1 hb2
   obtain ⟨hc2,hf2⟩:=ajy (afX hb1 hb2)
   clear hc1 hf1
   go_wp2_with fail
   go_ret
   exact ⟨acG Hfin.out.symm,hw2⟩
 ·have hfin:adD c=1:=by simp [adD,hn]
  have Hfin:=Lib.hid hfin
  clear hfin
  unfold akh
  go_enter Tryz.func24,Tryz.ntmps24
  go_wp2_with fail
  refine (afI c l _).mono ?_; rintro e w1 ⟨rfl,hb1⟩
  have hw1:=aeS hb1
  go_wp2_with fail
  go_ret
  exact ⟨acG Hfin.out.symm,hw1⟩
end
section
open Go Go.RowKit
variable [Tb]
theorem auG {f:FuncId} (hf:Nat.blt f agb=true) {r:Cfg→Int} (h:∀ (c:Cfg) (l:CfgAt) (w:World),aii w w.heap.size c l→Calls Tryz.prog f #[akh c l] w fun e w' =>e=.returned (.int .i64 (r c))∧Below w.heap.size w w') :
  CO Tryz.prog (⟨f,[.val 13],[.sh sI_],fun x =>some ((r x.1,()),())⟩:Con SR1):=fun x out hx B W hg vs F w hc =>by
 obtain ⟨hb,hB,hs⟩:=hc
 replace hx:(some ((r x.1,()),()):Option ((Int×Unit)×Unit))=some out:=hx
 obtain rfl:=Option.some.inj hx
 show afZ Tryz.prog f _ w _
 rw [aeo hf]
 rcases vs with _ | ⟨v1,_ | ⟨v2,vs⟩⟩
 ·exact aa9 hs
 ·replace hs:Sat B w (avp SR1 13 x.1 v1::[F]):=hs
  obtain ⟨p,rfl,hp,s1⟩:=axW hs
  exact (h x.1 p w hp).mono fun e w' ⟨he,hb'⟩ =>⟨[.int .i64 (r x.1)],he,hb.trans (hb'.mono hB),Nat.le_trans hB hb'.size,azN (S:=SR1) (s1.below hb')⟩
 ·replace hs:Sat B w (avp SR1 13 x.1 v1::([fun _ =>False]++[F])):=hs
  exact aa9 hs.drop
def aki (c:Cfg):Option ((Int×Unit)×Unit):=some ((adD c,()),())
noncomputable abbrev al7:Con SR1:=⟨24,[.val 13],[.sh sI_],fun x =>aki x.1⟩
theorem apM:CO Tryz.prog al7:=auG (by kernel_rfl) aox
end
section
open Go.RowKit
set_option maxHeartbeats 2000000 in
theorem anJ (c:Cfg) (l:CfgAt) (w:World) (hc:aii w w.heap.size c l) :
  Calls Tryz.prog 35 #[akh c l] w fun e w' =>e=.returned (.int .i64 (adD c))∧Below w.heap.size w w':=by
 have hlen:=hc.1.1
 have hlen2:=hc.2.1
 by_cases hn:ahV c=true
 ·obtain ⟨_,_,h1,h2,_⟩:=ah6 hn
  by_cases hp:inB (c.progs.length:Int) 1 32=true
  ·have hpa0:acX c=abl c.levels c.progs.length c.progs:=by simp [acX,hp]
   have hfin:adD c=if abl c.levels c.progs.length c.progs≠0 then abl c.levels c.progs.length c.progs else adU c:=by simp [adD,hn,hpa0]
   have Hfin:=Lib.hid hfin
   clear hfin hpa0
   unfold akh
   go_enter Tryz.func35,Tryz.ntmps35
   go_wp2_with fail
   refine (afD c l _).mono ?_; rintro e w1 ⟨rfl,hb1⟩
   obtain ⟨hc1,hf1⟩:=ajy hb1
   have hw1:=aeS hb1
   go_wp2_with fail
   refine (aei _ _ _ _).mono ?_; rintro e w2 ⟨rfl,rfl⟩
   go_wp2_with fail
   clear hc1 hf1
   have hb1':Below (w.heap.size+1) (w.alloc (ag8 c l)) w1:=by simpa using hb1
   clear hb1
   go_loopw [3] (fun i wr =>∃ k:Nat,k≤c.progs.length∧i=.int .i64 k∧aCB c.levels c.progs.length c.progs k∧Below (w.heap.size+1) (w.alloc (ag8 c l)) wr) (fun i _ =>c.progs.length-(intOf i).toNat)
   case atStart =>exact ⟨0,Nat.zero_le _,rfl,rfl,hb1'⟩
   case round =>
    clear hb1' hw1
    obtain ⟨k,hk,rfl,hi,hb⟩:=hrel
    have hB:w.heap.size<wr.heap.size:=by have:=hb.size; simp at this; omega
    have hbw:Below w.heap.size w wr:=((Below.refl _ _).alloc (Nat.le_refl _) _).trans (hb.mono (by omega))
    obtain ⟨hcs,hfz⟩:=ajy hb
    by_cases hlt:k<c.progs.length
    ·obtain ⟨b,o,hpa,hbb,Ai,ci,hcell,hsl⟩:=hc.1.at_ hlt
     have hln:=hsl.len
     obtain ⟨pa,pc,sa,sc⟩:=l
     obtain rfl:pa=some ⟨b,o,none⟩:=hpa
     by_cases hlong:32<c.progs[k].length
     ·have hres:=Lib.hid (afw hlt hi hlong)
      go_wp2
      go_ret
      exact ⟨acG (by rw [Hfin.out,hres.out]; simp),hbw⟩
     ·go_wp2
      obtain ⟨wo,rfl⟩:∃ wo:World,wo=wr:=⟨_,rfl⟩
      clear hcs hfz
      go_loopw [4] (fun i ws =>∃ j:Nat,j≤c.progs[k].length∧i=.int .i64 j∧aBs c.levels c.progs.length c.progs[k] j∧Below (w.heap.size+1) (w.alloc (ag8 c ⟨some ⟨b,o,none⟩,pc,sa,sc⟩)) ws) (fun i _ =>c.progs[k].length-(intOf i).toNat)
      case atStart =>exact ⟨0,Nat.zero_le _,rfl,by simp [aBs],hb⟩
      case round =>
       obtain ⟨j,hj,rfl,hq,hb2⟩:=hrel
       have hB2:w.heap.size<wr.heap.size:=by have:=hb2.size; simp at this; omega
       obtain ⟨hcs,hfz⟩:=ajy hb2
       by_cases hjt:j<c.progs[k].length
       ·obtain ⟨b2,o2,hpa2,hbb2,hcc⟩:=hsl.at_ hjt
        obtain rfl:Ai=some ⟨b2,o2,none⟩:=hpa2
        have c0:w.cell? ⟨b2,o2+j*3,none⟩=some (.int .i64 c.progs[k][j].op):=hcc j hjt 0 _ rfl
        have c1:w.cell? ⟨b2,o2+j*3+1,none⟩=some (.int .i64 c.progs[k][j].a):=hcc j hjt 1 _ rfl
        have c2:w.cell? ⟨b2,o2+j*3+2,none⟩=some (.int .i64 c.progs[k][j].b):=hcc j hjt 2 _ rfl
        by_cases hok:ahI c.levels c.progs.length c.progs[k][j]=true
        ·have hok2:(!ahI c.levels c.progs.length c.progs[k][j])=false:=by simp [hok]
         go_wp2
         clear hcs hfz
         have hcx:=Above.cells (B:=w.heap.size+1) (W:=w.alloc (ag8 c ⟨some ⟨b,o,none⟩,pc,sa,sc⟩))
         refine agI (w.heap.size+1) (w.alloc (ag8 c ⟨some ⟨b,o,none⟩,pc,sa,sc⟩)) (by kernel_rfl) (by kernel_rfl) hb2 ?_
         repeat (go_big_quiet_step ((go_at_call 64; exact auU (by simp) (ajG c ⟨some ⟨b,o,none⟩,pc,sa,sc⟩ c.progs[k][j] _ h1 h2 hlen))))
         refine wpQuiet_nil ?_
         intro wq hbq
         have hbq':Below w.heap.size w wq:=((Below.refl _ _).alloc (Nat.le_refl _) _).trans (hbq.mono (by omega))
         clear hcx
         go_wp2
         go_roundw
         case rel =>exact ⟨j+1,by omega,by go_num,aiZ hjt hq hok,hbq⟩
         case measure =>simp [intOf]; omega
        ·have hok':ahI c.levels c.progs.length c.progs[k][j]=false:=by simpa using hok
         clear hok
         have hres:=Lib.hid (afU hlt hi (by omega) hjt hok')
         go_wp2
         clear hcs hfz
         have hcx:=Above.cells (B:=w.heap.size+1) (W:=w.alloc (ag8 c ⟨some ⟨b,o,none⟩,pc,sa,sc⟩))
         refine agI (w.heap.size+1) (w.alloc (ag8 c ⟨some ⟨b,o,none⟩,pc,sa,sc⟩)) (by kernel_rfl) (by kernel_rfl) hb2 ?_
         repeat (go_big_quiet_step ((go_at_call 64; exact auU (by simp) (ajG c ⟨some ⟨b,o,none⟩,pc,sa,sc⟩ c.progs[k][j] _ h1 h2 hlen))))
         refine wpQuiet_nil ?_
         intro wq hbq
         have hbq':Below w.heap.size w wq:=((Below.refl _ _).alloc (Nat.le_refl _) _).trans (hbq.mono (by omega))
         clear hcx
         go_wp2
         go_ret
         exact ⟨acG (by rw [Hfin.out,hres.out]; simp),hbq'⟩
       ·go_wp2
        go_roundw
        case rel =>exact ⟨k+1,by omega,by go_num,afv hlt hi (by omega) (by
         have e:j=c.progs[k].length:=by omega
         subst e; exact hq),hb2⟩
        case measure =>simp [intOf]; omega
    ·have hi':abl c.levels c.progs.length (c.progs.drop k)=abl c.levels c.progs.length c.progs:=hi
     have hpz:abl c.levels c.progs.length c.progs=0:=by rw [← hi',List.drop_eq_nil_of_le (by omega)]; rfl
     have Hf2:Hid (adD c=adU c):=by rw [Hfin.out,hpz]; exact if_neg (by simp)
     clear hi hi' hpz
     by_cases hp:64<c.subs.length
     ·have hfin:adU c=2:=by simp [adU,hp]
      have Hf3:=Lib.hid hfin
      clear hfin
      go_wp2
      go_ret
      exact ⟨acG (by rw [Hf2.out,Hf3.out]),hbw⟩
     ·have hfin:adU c=acF c.levels c.progs.length c.subs:=by simp [adU,hp]
      have Hf3:=Lib.hid hfin
      clear hfin
      go_wp2
      obtain ⟨wo,rfl⟩:∃ wo:World,wo=wr:=⟨_,rfl⟩
      clear hcs hfz
      go_loopw [5] (fun i wr =>∃ k:Nat,k≤c.subs.length∧i=.int .i64 k∧aCA c.levels c.progs.length c.subs k∧Below (w.heap.size+1) (w.alloc (ag8 c l)) wr) (fun i _ =>c.subs.length-(intOf i).toNat)
      case atStart =>exact ⟨0,Nat.zero_le _,rfl,rfl,hb⟩
      case round =>
       clear hb hB hbw
       obtain ⟨m,hk,rfl,hi,hb⟩:=hrel
       have hB:w.heap.size<wr.heap.size:=by have:=hb.size; simp at this; omega
       have hbw:Below w.heap.size w wr:=((Below.refl _ _).alloc (Nat.le_refl _) _).trans (hb.mono (by omega))
       obtain ⟨hcs,hfz⟩:=ajy hb
       by_cases hlt:m<c.subs.length
       ·obtain ⟨b,o,hpa,hbb,hcc⟩:=hc.2.at_ hlt
        obtain ⟨pa,pc,sa,sc⟩:=l
        obtain rfl:sa=some ⟨b,o,none⟩:=hpa
        have c0:w.cell? ⟨b,o+m*3,none⟩=some (.int .i64 c.subs[m].prog):=hcc m hlt 0 _ rfl
        have c1:w.cell? ⟨b,o+m*3+1,none⟩=some (.int .i64 c.subs[m].level):=hcc m hlt 1 _ rfl
        have c2:w.cell? ⟨b,o+m*3+2,none⟩=some (.int .i64 c.subs[m].deadline):=hcc m hlt 2 _ rfl
        have hse:ajE c.levels c.progs.length c.subs[m]=if !inB c.subs[m].prog 0 (c.progs.length-1) then 3 else if !inB c.subs[m].level 0 (c.levels-1) || !inB c.subs[m].deadline 0 16777215 then 1 else 0:=rfl
        have Hse:=Lib.hid hse
        clear hse
        have bad:=fun e he hne =>Lib.hid (agu (e:=e) hlt hi he hne)
        by_cases g1:inB c.subs[m].prog 0 (c.progs.length-1)=true
        ·by_cases g2:inB c.subs[m].level 0 (c.levels-1)=true
         ·by_cases g3:inB c.subs[m].deadline 0 16777215=true
          ·go_wp2_with (first | (go_at_call 63; refine (aei _ _ _ _).mono ?_; rintro e w' ⟨rfl,rfl⟩))
           go_roundw
           case rel =>exact ⟨m+1,by omega,by go_num,afN hlt hi (by rw [Hse.out]; simp [g1,g2,g3]),hb.alloc (by omega) _⟩
           case measure =>simp [intOf]; omega
          ·go_wp2_with (first | (go_at_call 63; refine (aei _ _ _ _).mono ?_; rintro e w' ⟨rfl,rfl⟩))
           go_ret
           exact ⟨acG (by rw [Hf2.out,Hf3.out,(bad 1 (by rw [Hse.out]; simp [g1,g2,g3]) (by omega)).out]),hbw.alloc (by omega) _⟩
         ·go_wp2_with (first | (go_at_call 63; refine (aei _ _ _ _).mono ?_; rintro e w' ⟨rfl,rfl⟩))
          go_ret
          exact ⟨acG (by rw [Hf2.out,Hf3.out,(bad 1 (by rw [Hse.out]; simp [g1,g2]) (by omega)).out]),hbw.alloc (by omega) _⟩
        ·go_wp2_with (first | (go_at_call 63; refine (aei _ _ _ _).mono ?_; rintro e w' ⟨rfl,rfl⟩))
         go_ret
         exact ⟨acG (by rw [Hf2.out,Hf3.out,(bad 3 (by rw [Hse.out]; simp [g1]) (by omega)).out]),hbw.alloc (by omega) _⟩
       ·go_wp2
        go_ret
        exact ⟨acG (by
         have hi':acF c.levels c.progs.length (c.subs.drop m)=acF c.levels c.progs.length c.subs:=hi
         rw [Hf2.out,Hf3.out,← hi',List.drop_eq_nil_of_le (by omega)]; rfl),hbw⟩
  ·have hfin:adD c=2:=by simp [adD,hn,acX,hp]
   have Hfin:=Lib.hid hfin
   clear hfin
   unfold akh
   go_enter Tryz.func35,Tryz.ntmps35
   go_wp2_with fail
   refine (afD c l _).mono ?_; rintro e w1 ⟨rfl,hb1⟩
   obtain ⟨hc1,hf1⟩:=ajy hb1
   have hw1:=aeS hb1
   go_wp2_with fail
   refine (aei _ _ _ _).mono ?_; rintro e w2 ⟨rfl,rfl⟩
   go_wp2_with fail
   go_ret
   exact ⟨acG Hfin.out.symm,hw1⟩
 ·have hfin:adD c=1:=by simp [adD,hn]
  have Hfin:=Lib.hid hfin
  clear hfin
  unfold akh
  go_enter Tryz.func35,Tryz.ntmps35
  go_wp2_with fail
  refine (afD c l _).mono ?_; rintro e w1 ⟨rfl,hb1⟩
  have hw1:=aeS hb1
  go_wp2_with fail
  go_ret
  exact ⟨acG Hfin.out.symm,hw1⟩
end
section
open Go Go.RowKit
variable [Tb]
def aj4 (c:Cfg):Option ((Int×Unit)×Unit):=some ((adD c,()),())
noncomputable abbrev alw:Con SR1:=⟨35,[.val 13],[.sh sI_],fun x =>aj4 x.1⟩
theorem aoU:CO Tryz.prog alw:=auG (by kernel_rfl) anJ
end
section
open Go
def aaI {α:Type} (o:Option α) (P:α→Prop):Prop:=∃ x,o=some x∧P x
section
variable {α β:Type} {o:Option α} {P Q:α→Prop} {x:α}
theorem aaI.some_ (h:P x):aaI (some x) P:=⟨x,rfl,h⟩
theorem aaI.bind {f:α→Option β} {Q:β→Prop} (h:aaI o P) (k:∀ x,P x→aaI (f x) Q):aaI (o.bind f) Q:=by
 obtain ⟨x,rfl,hx⟩:=h
 exact k x hx
theorem aaI.ite {c:Prop} [Decidable c] {a b:Option α} (h1:c→aaI a P) (h2:¬ c→aaI b P):aaI (if c then a else b) P:=by
 by_cases h:c
 ·rw [if_pos h]; exact h1 h
 ·rw [if_neg h]; exact h2 h
theorem aaI.guard {c:Prop} [Decidable c] {a b:Option α} (h:c) (k:c→aaI a P):aaI (if c then a else b) P:=by rw [if_pos h]; exact k h
theorem aaI.mono (h:aaI o P) (k:∀ x,P x→Q x):aaI o Q:=by
 obtain ⟨x,e,hx⟩:=h
 exact ⟨x,e,k x hx⟩
end
def Rg (x:Int):Prop := -9223372036854775808≤x∧x≤9223372036854775807
theorem aa2 {x:Int} (h:Rg x):wi x=x:=w64 h.1 h.2
theorem aae {x:Int} (h:-1000000000000≤x∧x≤1000000000000):Rg x:=by unfold Rg; omega
theorem asx {a b:Int} (h1:1≤b) (h2:0≤a):0≤Int.tmod a b∧Int.tmod a b<b:=⟨Int.tmod_nonneg b h2,Int.tmod_lt_of_pos a (by omega)⟩
theorem ab8 {σ β:Type} {F:(σ→Option β)→σ→Option β} (I:σ→Prop) (μ:σ→Nat) {P:β→Prop} (step:∀ self x,I x→(∀ y,I y→μ y<μ x→aaI (self y) P)→aaI (F self x) P):∀ k x,I x→μ x<k→aaI (lpF F k x) P
 | 0,x,_,h =>by omega
 | k+1,x,hx,h =>step (lpF F k) x hx fun y hy hlt =>ab8 I μ step k y hy (by omega)
theorem alm {α:Type} {d:α} {xs:List α} {i:Int} (h:0≤i∧i<(xs.length:Int)):atL d xs i∈xs:=List.mem_of_getElem? (ab2 h)
theorem ad9 {α β:Type} {G:Prop} [d:Decidable G] (A:Option α) (f:α→Option β):(A.bind fun r =>if G then f r else none)=if G then A.bind f else none:=by
 by_cases h:G
 ·simp only [if_pos h]
 ·simp only [if_neg h]; cases A<;>rfl
end
end Go.Proofs.YtkmkhldmflebkaaGreat
