/- Evaluation by itself: calls by contracts. No program occurs here. Evaluation by itself: contracts in a row. No program occurs here. Evaluation by itself: methods of machines behind interfaces. No program occurs here. The reference's and the program's data as kinds. No program occurs here. The seat's kinds. A row that a call has made. No program occurs here. Evaluation by itself: slices that came in. No program occurs here. Contracts proved in another style,in the evaluator's words. No program occurs here. A configuration that came in. Walks: the checks of a configuration (config and its reference),function by function. Walks: the checks of a configuration's programs and submissions (config). The check of a configuration,in the evaluator's words. Walks: the check of a configuration (its reference),and whether it is small. The reference's check of a configuration,in the evaluator's words. What it means that an answer is there; numbers; loops. Configurations in the evaluator's form. -/
import Derived.Test.YtjjbdbbmdhncjaaGreatSzah
import Derived.Test.YtjjbdbbmdhncjaaGreatSzaf
import Derived.Test.YtjjbdbbmdhncjaaGreatSzac
import Derived.Test.YtjjbdbbmdhncjaaGreatProg
import Derived.Test.YtjjbdbbmdhncjaaGreatChecked
import Derived.Laws.AppendOwn
import Derived.Test.YtjjbdbbmdhncjaaGreatRows
import Derived.Test.YtjjbdbbmdhncjaaGreatSzaa
set_option linter.all false
namespace Go.Proofs.YtjjbdbbmdhncjaaGreat
section
open Go Go.RowKit
inductive RemC (T:Nat→Type) (M:Type) (c:Nat) where
 | cells (id:Nat) (pre post:List (Fd T M))
 | elt (j:Nat) (i:Int) (xs:List (T c))
section
variable (S:Shp)
def ayf (H:S.kt.H) (c:Nat) (v:V):Option (S.T c×S.kt.H×RemC S.T S.M c) :=
 match v with
 | .ptr id o =>match get H id with
  | some (.cells fs) =>match Nat.ble (o+S.kt.sz c) fs.length with
   | true =>match aqP S.kt (asm S.kt) (del H id) (S.kt.vw c (S.kt.df c)) ((fs.drop o).take (S.kt.sz c)) with
    | some (l,H1) =>match S.kt.bk c l with
     | some x =>some (x,H1,.cells id (fs.take o) (fs.drop (o+S.kt.sz c)))
     | none =>none
    | none =>none
   | false =>none
  | some (.elt j i sz) =>match Nat.beq o 0 && Nat.beq sz (S.kt.sz c) with
   | true =>match get H j with
    | some (.row c' xs) =>match aka c' c xs with
     | some ys =>some (atL (S.df c) ys i,del H j,.elt j i ys)
     | none =>none
    | _ =>none
   | false =>none
  | _ =>none
 | _ =>none
def avR (c:Nat) (x:S.T c) (H:S.kt.H):RemC S.T S.M c→S.kt.H
 | .cells id pre post =>(id,.cells (pre++((S.kt.vw c x).map .f++post)))::H
 | .elt j i xs =>(j,.row c (xs.set i.toNat x))::H
def au8 (ρ:Env) (c:Nat):RemC S.T S.M c→aak
 | .cells id pre post =>fun h =>∃ us ws:List Value,us.length=pre.length∧ab0 (pts (ρ.p id).1 (ρ.p id).2 us::pts (ρ.p id).1 ((ρ.p id).2+pre.length+S.kt.sz c) ws::(fsS (fS S.kt ρ) pre us++fsS (fS S.kt ρ) post ws)) h
 | .elt j i xs =>fun h =>∃ (b o:Nat) (vss:List (List Value)) (spare:List Value) (N:List aak),(0≤i∧i<(xs.length:Int))∧((ρ.s j).a=some ⟨b,o,none⟩∧(ρ.s j).n=xs.length)∧(vss.length=xs.length∧∀ v∈vss,v.length=S.kt.sz c) ∧
   (xs.length≤(ρ.s j).c∧(ρ.s j).c≤maxLen∧spare.length=((ρ.s j).c-xs.length)*S.kt.sz c)∧(∀ x' vs',(ab1 S.kt (pcS S.kt) c (xs.set i.toNat x') (vss.set i.toNat vs')).Perm (fsS (pcS S.kt) (S.kt.vw c x') vs'++N)) ∧
   ab0 (pts b o (vss.flatten.take (i.toNat*S.kt.sz c))::pts b (o+i.toNat*S.kt.sz c+S.kt.sz c) (vss.flatten.drop (i.toNat*S.kt.sz c+S.kt.sz c)++spare)::N) h
def ac1 (ρ:Env) (c:Nat):RemC S.T S.M c→Nat×Nat
 | .cells id pre _ =>((ρ.p id).1,(ρ.p id).2+pre.length)
 | .elt j i _ =>match (ρ.s j).a with
  | some a =>(a.block,a.off+i.toNat*S.kt.sz c)
  | none =>(0,0)
end
section
variable {S:Shp} {B:Nat} {w:World} {ρ:Env}
theorem amT {α:Type} {A:α→aak} {L:List aak} (s:Sat B w ((fun h =>∃ x,A x h)::L)):∃ x,Sat B w (A x::L):=by
 obtain ⟨h,Hh,k1,k2,a,e,⟨x,hx⟩,hL⟩:=s
 exact ⟨x,h,Hh,k1,k2,a,e,hx,hL⟩
theorem ayE {N L:List aak} (s:Sat B w (ab0 N::L)):Sat B w (N++L):=by
 obtain ⟨h,Hh,k1,k2,a,e,hx,hL⟩:=s
 exact ⟨h,Hh,aau.2 ⟨k1,k2,a,e,hx,hL⟩⟩
theorem ahN {N L:List aak} {A:aak} (f:∀ h,ab0 N h→A h) (s:Sat B w (N++L)):Sat B w (A::L):=by
 obtain ⟨h,Hh,hs⟩:=s
 obtain ⟨k1,k2,a,e,g1,g2⟩:=aau.1 hs
 exact ⟨h,Hh,k1,k2,a,e,f _ g1,g2⟩
theorem aye {H H1:S.kt.H} {c:Nat} {v:V} {x:S.T c} {r:RemC S.T S.M c} (h:ayf S H c v=some (x,H1,r)) {X:List aak} (s:Sat B w (dH S.kt ρ H++X)) :
  aaE ρ v=.pointer (some ⟨(ac1 S ρ c r).1,(ac1 S ρ c r).2,none⟩)∧Sat B w (obS S.kt c x (ac1 S ρ c r)::au8 S ρ c r::(dH S.kt ρ H1++X)):=by
 unfold ayf at h
 split at h
 ·rename_i id o
  split at h
  ·rename_i fs hg
   split at h
   ·rename_i hB
    split at h
    ·rename_i l H2 hl
     split at h
     ·rename_i y hy
      cases h
      have hle:=Nat.le_of_ble_eq_true hB
      obtain ⟨vs,s1⟩:=afy (s.imp (aa4 (ρ:=ρ) hg))
      have hlen:=ahh s1
      have hol:(fs.take o).length=o:=by simp; omega
      refine ⟨by simp [aaE,ac1,hol],?_⟩
      -- three parts
      have e1:fsS (fS S.kt ρ) fs vs=fsS (fS S.kt ρ) (fs.take o) (vs.take o)++(fsS (fS S.kt ρ) ((fs.drop o).take (S.kt.sz c)) ((vs.drop o).take (S.kt.sz c))++fsS (fS S.kt ρ) (fs.drop (o+S.kt.sz c)) (vs.drop (o+S.kt.sz c))):=by
       conv =>lhs; rw [← List.take_append_drop o fs,← List.take_append_drop o vs,agG (by simp [hlen])]
       conv =>lhs; arg 2; rw [← List.take_append_drop (S.kt.sz c) (fs.drop o),← List.take_append_drop (S.kt.sz c) (vs.drop o),agG (by simp [hlen]),List.drop_drop,List.drop_drop]
      have e2:vs=vs.take o++((vs.drop o).take (S.kt.sz c)++vs.drop (o+S.kt.sz c)):=by
       rw [← List.drop_drop,List.take_append_drop,List.take_append_drop]
      have s2:Sat B w (pts (ρ.p id).1 (ρ.p id).2 (vs.take o++((vs.drop o).take (S.kt.sz c)++vs.drop (o+S.kt.sz c)))::(fsS (fS S.kt ρ) fs vs++(dH S.kt ρ (del H id)++X))):=by rw [← e2]; exact s1
      have s3:=s2.imp aiC
      have hvo:(vs.take o).length=o:=by simp; omega
      rw [hvo] at s3
      have s4:Sat B w (pts (ρ.p id).1 ((ρ.p id).2+o) ((vs.drop o).take (S.kt.sz c)++vs.drop (o+S.kt.sz c))::pts (ρ.p id).1 (ρ.p id).2 (vs.take o)::(fsS (fS S.kt ρ) fs vs++(dH S.kt ρ (del H id)++X))):=s3.perm (List.Perm.swap ..)
      have s5:=s4.imp aiC
      have hvm:((vs.drop o).take (S.kt.sz c)).length=S.kt.sz c:=by rw [List.length_take,List.length_drop]; omega
      rw [hvm,e1] at s5
      -- the middle is put together
      have s6:Sat B w (fsS (fS S.kt ρ) ((fs.drop o).take (S.kt.sz c)) ((vs.drop o).take (S.kt.sz c))++(dH S.kt ρ (del H id)++(pts (ρ.p id).1 ((ρ.p id).2+o) ((vs.drop o).take (S.kt.sz c))::((pts (ρ.p id).1 (ρ.p id).2 (vs.take o)::pts (ρ.p id).1 ((ρ.p id).2+o+S.kt.sz c) (vs.drop (o+S.kt.sz c))::(fsS (fS S.kt ρ) (fs.take o) (vs.take o)++fsS (fS S.kt ρ) (fs.drop (o+S.kt.sz c)) (vs.drop (o+S.kt.sz c))))++X)))):=by
       refine s5.perm ?_
       refine List.Perm.symm ?_
       refine (aid _ _ _ _).trans (List.Perm.cons _ ?_)
       simp only [List.cons_append]
       refine (aid _ _ _ _).trans ?_
       refine List.Perm.trans (List.Perm.cons _ (aid _ _ _ _)) ?_
       refine (List.Perm.swap ..).trans (List.Perm.cons _ (List.Perm.cons _ ?_))
       simp only [List.append_assoc]
       -- mid ++ (H ++ (pre ++ (post ++ X)))  ~  pre ++ (mid ++ (post ++ (H ++ X)))
       refine (List.Perm.append_left _ (ac8 _ _ _)).trans ?_
       refine (ac8 _ _ _).trans (List.Perm.append_left _ (List.Perm.append_left _ (ac8 _ _ _)))
      have s7:=agT amk hl s6
      have s8:Sat B w ((pts (ρ.p id).1 ((ρ.p id).2+o) ((vs.drop o).take (S.kt.sz c))::fsS (pcS S.kt) l ((vs.drop o).take (S.kt.sz c)))++((pts (ρ.p id).1 (ρ.p id).2 (vs.take o)::pts (ρ.p id).1 ((ρ.p id).2+o+S.kt.sz c) (vs.drop (o+S.kt.sz c))::(fsS (fS S.kt ρ) (fs.take o) (vs.take o)++fsS (fS S.kt ρ) (fs.drop (o+S.kt.sz c)) (vs.drop (o+S.kt.sz c))))++(dH S.kt ρ H1++X))):=by
       refine s7.perm ?_
       refine (aid _ _ _ _).trans ?_
       simp only [List.cons_append]
       refine List.Perm.cons _ (List.Perm.append_left _ ?_)
       exact ac8 (dH S.kt ρ H1) (pts (ρ.p id).1 (ρ.p id).2 (vs.take o)::pts (ρ.p id).1 ((ρ.p id).2+o+S.kt.sz c) (vs.drop (o+S.kt.sz c))::(fsS (fS S.kt ρ) (fs.take o) (vs.take o)++fsS (fS S.kt ρ) (fs.drop (o+S.kt.sz c)) (vs.drop (o+S.kt.sz c)))) X
      refine ahN (fun k hk =>?_) (?_:Sat B w ((pts (ρ.p id).1 ((ρ.p id).2+o) ((vs.drop o).take (S.kt.sz c))::fsS (pcS S.kt) l ((vs.drop o).take (S.kt.sz c)))++(au8 S ρ c (.cells id (fs.take o) (fs.drop (o+S.kt.sz c)))::(dH S.kt ρ H1++X))))
      ·refine aj1.2 ⟨(vs.drop o).take (S.kt.sz c),?_⟩
       rw [S.kt.bk_ok _ _ _ hy]
       simpa [ac1,hol] using hk
      ·have s9:=s8.perm List.perm_append_comm
       rw [List.append_assoc] at s9
       have s10:=ahN (A:=au8 S ρ c (.cells id (fs.take o) (fs.drop (o+S.kt.sz c)))) (fun k hk =>⟨vs.take o,vs.drop (o+S.kt.sz c),by rw [hvo,hol],by rw [hol]; exact hk⟩) s9
       refine s10.perm ?_
       refine List.Perm.symm ?_
       refine (List.perm_middle).trans (List.Perm.cons _ List.perm_append_comm)
     ·cases h
    ·cases h
   ·cases h
  ·rename_i j i sz hel
   split at h
   ·rename_i hB
    split at h
    ·rename_i c' xs hg
     split at h
     ·rename_i ys hy
      cases h
      obtain ⟨rfl,rfl⟩:=afa hy
      simp only [Bool.and_eq_true] at hB
      obtain rfl:=Nat.eq_of_beq_eq_true hB.1
      obtain rfl:=Nat.eq_of_beq_eq_true hB.2
      obtain ⟨hi,b,o2,hA,hp⟩:=aqz s hel
      obtain ⟨hn,vss,h2,h3,s2⟩:=af2 s hg
      rw [hn] at hi
      have hxi:=aej (d:=S.df c') hi
      have hlt:i.toNat<vss.length:=by omega
      have hvs:vss[i.toNat]?=some vss[i.toNat]:=List.getElem?_eq_getElem hlt
      have hvl:=h3 _ (List.getElem_mem hlt)
      refine ⟨by simp [aaE,ac1,hA,hp],?_⟩
      obtain ⟨hh,Hh,k1,k2,a,e,⟨r1,r2,r3,r4⟩,hL⟩:=s2
      rcases r4 with ⟨r4,_⟩ | ⟨b',o',spare,hA',hsp,hpts⟩
      ·rw [r4] at hA; cases hA
      ·rw [hA] at hA'
       cases hA'
       obtain ⟨N,p1,p2⟩:=af1 (pc:=pcS S.kt) hxi hvs
       have hfl:=adt h3
       have hlow:i.toNat*S.kt.sz c'+S.kt.sz c'≤vss.flatten.length:=by
        rw [hfl]
        have:(i.toNat+1)*S.kt.sz c'≤vss.length*S.kt.sz c':=Nat.mul_le_mul_right _ hlt
        rw [Nat.add_mul] at this; omega
       have hmid:(vss.flatten.drop (i.toNat*S.kt.sz c')).take (S.kt.sz c')=vss[i.toNat]:=by
        apply List.ext_getElem?
        intro q
        by_cases hq:q<S.kt.sz c'
        ·rw [List.getElem?_take_of_lt hq,List.getElem?_drop]
         rw [ah8 h3 hvs (v:=(vss[i.toNat])[q]'(by omega)) (List.getElem?_eq_getElem _),List.getElem?_eq_getElem]
        ·rw [List.getElem?_eq_none (by rw [List.length_take,List.length_drop]; omega),List.getElem?_eq_none (by omega)]
       have e2:vss.flatten++spare=vss.flatten.take (i.toNat*S.kt.sz c')++(vss[i.toNat]++(vss.flatten.drop (i.toNat*S.kt.sz c'+S.kt.sz c')++spare)):=by
        rw [← hmid,← List.drop_drop,← List.append_assoc (List.take _ _),← List.append_assoc,List.append_assoc (List.take (i.toNat*S.kt.sz c') _),List.take_append_drop,List.take_append_drop]
       have t1:Sat B w (pts b o2 (vss.flatten.take (i.toNat*S.kt.sz c')++(vss[i.toNat]++(vss.flatten.drop (i.toNat*S.kt.sz c'+S.kt.sz c')++spare)))::(ab1 S.kt (pcS S.kt) c' ys vss++(dH S.kt ρ (del H j)++X))):=by
        rw [← e2]; exact ⟨hh,Hh,k1,k2,a,e,hpts,hL⟩
       have t2:=t1.imp aiC
       have htl:(vss.flatten.take (i.toNat*S.kt.sz c')).length=i.toNat*S.kt.sz c':=by rw [List.length_take]; omega
       rw [htl] at t2
       have t3:=(t2.perm (List.Perm.swap ..)).imp aiC
       rw [hvl] at t3
       have t4:Sat B w ((pts b (o2+i.toNat*S.kt.sz c') vss[i.toNat]::fsS (pcS S.kt) (S.kt.vw c' (atL (S.df c') ys i)) vss[i.toNat])++((pts b o2 (vss.flatten.take (i.toNat*S.kt.sz c'))::pts b (o2+i.toNat*S.kt.sz c'+S.kt.sz c') (vss.flatten.drop (i.toNat*S.kt.sz c'+S.kt.sz c')++spare)::N)++(dH S.kt ρ (del H j)++X))):=by
        refine t3.perm ?_
        simp only [List.cons_append]
        refine List.Perm.cons _ ?_
        refine (List.Perm.swap ..).trans ?_
        refine List.Perm.trans ?_ (List.perm_middle).symm
        refine List.Perm.cons _ ?_
        refine List.Perm.trans ?_ (List.perm_middle).symm
        refine List.Perm.cons _ ?_
        exact (p1.append_right _).trans (by rw [List.append_assoc])
       refine ahN (fun k hk =>?_) (?_:Sat B w ((pts b (o2+i.toNat*S.kt.sz c') vss[i.toNat]::fsS (pcS S.kt) (S.kt.vw c' (atL (S.df c') ys i)) vss[i.toNat])++(au8 S ρ c' (.elt j i ys)::(dH S.kt ρ (del H j)++X))))
       ·refine aj1.2 ⟨vss[i.toNat],?_⟩
        simpa [ac1,hA] using hk
       ·have s9:=t4.perm List.perm_append_comm
        rw [List.append_assoc] at s9
        have s10:=ahN (A:=au8 S ρ c' (.elt j i ys)) (fun k hk =>⟨b,o2,vss,spare,N,hi,⟨hA,hn⟩,⟨h2.symm,h3⟩,⟨r2,r3,hsp⟩,p2,hk⟩) s9
        refine s10.perm ?_
        refine List.Perm.symm ?_
        exact (List.perm_middle).trans (List.Perm.cons _ List.perm_append_comm)
     ·cases h
    ·cases h
   ·cases h
  ·cases h
 ·cases h
theorem at5 {H:S.kt.H} {c:Nat} {x:S.T c} {r:RemC S.T S.M c} {X:List aak} (s:Sat B w (obS S.kt c x (ac1 S ρ c r)::au8 S ρ c r::(dH S.kt ρ H++X))):Sat B w (dH S.kt ρ (avR S c x H r)++X):=by
 obtain ⟨h,Hh,k1,k2,a,e,hO,hL⟩:=s
 rw [aj1] at hO
 obtain ⟨vs,hO⟩:=hO
 have s1:Sat B w ((pts (ac1 S ρ c r).1 (ac1 S ρ c r).2 vs::fsS (pcS S.kt) (S.kt.vw c x) vs)++(au8 S ρ c r::(dH S.kt ρ H++X))):=⟨h,Hh,aau.2 ⟨k1,k2,a,e,hO,hL⟩⟩
 have hlen:(S.kt.vw c x).length=vs.length:=ahh s1
 rw [S.kt.sz_ok] at hlen
 have s2:Sat B w (au8 S ρ c r::((pts (ac1 S ρ c r).1 (ac1 S ρ c r).2 vs::fsS (pcS S.kt) (S.kt.vw c x) vs)++(dH S.kt ρ H++X))):=s1.perm (aaG fun f g h1 h2 h3 =>by simp only [h1,h2,h3]; omega)
 cases r with
 | cells id pre post =>
  obtain ⟨us,s3⟩:=amT (show Sat B w ((fun h =>∃ us,(fun us h =>∃ ws:List Value,us.length=pre.length∧ab0 (pts (ρ.p id).1 (ρ.p id).2 us::pts (ρ.p id).1 ((ρ.p id).2+pre.length+S.kt.sz c) ws::(fsS (fS S.kt ρ) pre us++fsS (fS S.kt ρ) post ws)) h) us h)::((pts ((ρ.p id).1) ((ρ.p id).2+pre.length) vs::fsS (pcS S.kt) (S.kt.vw c x) vs)++(dH S.kt ρ H++X))) from s2)
  obtain ⟨ws,s4⟩:=amT s3
  obtain ⟨hu,s5⟩:us.length=pre.length∧Sat B w (ab0 (pts (ρ.p id).1 (ρ.p id).2 us::pts (ρ.p id).1 ((ρ.p id).2+pre.length+S.kt.sz c) ws::(fsS (fS S.kt ρ) pre us++fsS (fS S.kt ρ) post ws))::((pts ((ρ.p id).1) ((ρ.p id).2+pre.length) vs::fsS (pcS S.kt) (S.kt.vw c x) vs)++(dH S.kt ρ H++X))):=by
   obtain ⟨h',Hh',j1,j2,a',e',⟨g1,g2⟩,hL'⟩:=s4
   exact ⟨g1,h',Hh',j1,j2,a',e',g2,hL'⟩
  have s6:=ayE s5
  have s7:Sat B w (pts (ρ.p id).1 ((ρ.p id).2+pre.length) vs::pts (ρ.p id).1 ((ρ.p id).2+pre.length+S.kt.sz c) ws::(pts (ρ.p id).1 (ρ.p id).2 us::(fsS (fS S.kt ρ) pre us++(fsS (pcS S.kt) (S.kt.vw c x) vs++fsS (fS S.kt ρ) post ws))++(dH S.kt ρ H++X))):=s6.perm (aaG fun f g h1 h2 h3 =>by simp only [h1,h2,h3]; omega)
  have s8:=s7.imp (ajX (by rw [← hlen]))
  have s9:=(s8.perm (List.Perm.swap ..)).imp (ajX (by rw [hu]))
  refine ahN (N:=pts (ρ.p id).1 (ρ.p id).2 (us++(vs++ws))::(fsS (fS S.kt ρ) pre us++(fsS (pcS S.kt) (S.kt.vw c x) vs++fsS (fS S.kt ρ) post ws))) (fun k hk =>⟨us++(vs++ws),?_⟩) s9
  show ab0 (pts (ρ.p id).1 (ρ.p id).2 (us++(vs++ws))::fsS (fS S.kt ρ) (pre++((S.kt.vw c x).map .f++post)) (us++(vs++ws))) k
  rw [agG hu.symm,agG (by rw [List.length_map,S.kt.sz_ok,hlen]),al1 (pcS S.kt) _ (fun x v =>rfl)]
  exact hk
 | elt j i xs =>
  obtain ⟨h',Hh',j1,j2,a',e',⟨b,o,vss,spare,N,hi,⟨hA,hn⟩,⟨hvl,hvz⟩,⟨hc1,hc2,hc3⟩,hperm,hst⟩,hL'⟩:=s2
  have s3:Sat B w ((pts b o (vss.flatten.take (i.toNat*S.kt.sz c))::pts b (o+i.toNat*S.kt.sz c+S.kt.sz c) (vss.flatten.drop (i.toNat*S.kt.sz c+S.kt.sz c)++spare)::N)++((pts (ac1 S ρ c (.elt j i xs)).1 (ac1 S ρ c (.elt j i xs)).2 vs::fsS (pcS S.kt) (S.kt.vw c x) vs)++(dH S.kt ρ H++X))):=⟨h',Hh',aau.2 ⟨j1,j2,a',e',hst,hL'⟩⟩
  have hra:ac1 S ρ c (.elt j i xs)=(b,o+i.toNat*S.kt.sz c):=by simp [ac1,hA]
  rw [hra] at s3
  have hlt:i.toNat<vss.length:=by omega
  have hvs:vss[i.toNat]?=some vss[i.toNat]:=List.getElem?_eq_getElem hlt
  have hfl:=adt hvz
  have hlow:i.toNat*S.kt.sz c+S.kt.sz c≤vss.flatten.length:=by
   rw [hfl]
   have:(i.toNat+1)*S.kt.sz c≤vss.length*S.kt.sz c:=Nat.mul_le_mul_right _ hlt
   rw [Nat.add_mul] at this; omega
  have htl:(vss.flatten.take (i.toNat*S.kt.sz c)).length=i.toNat*S.kt.sz c:=by rw [List.length_take]; omega
  have s4:Sat B w (pts b (o+i.toNat*S.kt.sz c) vs::pts b (o+i.toNat*S.kt.sz c+S.kt.sz c) (vss.flatten.drop (i.toNat*S.kt.sz c+S.kt.sz c)++spare)::(pts b o (vss.flatten.take (i.toNat*S.kt.sz c))::(fsS (pcS S.kt) (S.kt.vw c x) vs++N)++(dH S.kt ρ H++X))):=s3.perm (aaG fun f g h1 h2 h3 =>by simp only [h1,h2,h3]; omega)
  have s5:=s4.imp (ajX (by rw [← hlen]))
  have s6:=(s5.perm (List.Perm.swap ..)).imp (ajX (by rw [htl]))
  have e2:vss.flatten.take (i.toNat*S.kt.sz c)++(vs++(vss.flatten.drop (i.toNat*S.kt.sz c+S.kt.sz c)++spare))=(vss.set i.toNat vs).flatten++spare:=by
   have:=agH (o:=0) (us:=vs) hvz hvs (by omega)
   have e3:(vss[i.toNat]).take 0++vs++(vss[i.toNat]).drop (0+vs.length)=vs:=by
    have:=hvz _ (List.getElem_mem hlt)
    rw [List.drop_eq_nil_of_le (by omega)]; simp
   rw [e3,Nat.add_zero,← hlen] at this
   rw [this]; simp only [List.append_assoc]
  rw [e2] at s6
  have s7:Sat B w ((pts b o ((vss.set i.toNat vs).flatten++spare)::ab1 S.kt (pcS S.kt) c (xs.set i.toNat x) (vss.set i.toNat vs))++(dH S.kt ρ H++X)):=s6.perm (List.Perm.cons _ ((hperm x vs).symm.append_right _))
  refine ahN (fun k hk =>?_) s7
  obtain ⟨q1,q2,qa,qe,g1,g2⟩:=hk
  refine ⟨by rw [List.length_set]; exact hn,acw.2 ⟨vss.set i.toNat vs,q1,q2,qa,qe,⟨?_,?_,hc2,.inr ⟨b,o,spare,hA,?_,g1⟩⟩,g2⟩⟩
  ·have hz2:∀ v∈vss.set i.toNat vs,v.length=S.kt.sz c:=fun v hv =>by
    rcases List.mem_or_eq_of_mem_set hv with e | e
    ·exact hvz v e
    ·rw [e,← hlen]
   rw [adt hz2,List.length_set,List.length_set,hvl]
  ·rw [List.length_set]; exact hc1
  ·rw [List.length_set]; exact hc3
end
section
variable (S:Shp)
def ayg:List Pk→Type
 | [] =>Unit
 | .ref c::l =>RemC S.T S.M c×ayg l
 | .mch::l =>Nat×ayg l
 | .lent _::l =>Nat×ayg l
 | .sh _::l =>ayg l
 | .val _::l =>ayg l
def au6 (Z:S.kt.H):(ps:List Pk)→S.kt.H→List V→Option (aqQ S ps×S.kt.H×ayg S ps)
 | [],H,[] =>some ((),H,())
 | .sh s::ps,H,v::vs =>match aEM S Z H s v with
  | some (x,H1) =>match au6 Z ps H1 vs with
   | some (r,H2,m) =>some ((x,r),H2,m)
   | none =>none
  | none =>none
 | .val c::ps,H,v::vs =>match aEO S H c v with
  | some (x,H1) =>match au6 Z ps H1 vs with
   | some (r,H2,m) =>some ((x,r),H2,m)
   | none =>none
  | none =>none
 | .ref c::ps,H,v::vs =>match ayf S H c v with
  | some (x,H1,q) =>match au6 Z ps H1 vs with
   | some (r,H2,m) =>some ((x,r),H2,(q,m))
   | none =>none
  | none =>none
 | .mch::ps,H,v::vs =>match v with
  | .mc id =>match get H id with
   | some (.mach x) =>match au6 Z ps (del H id) vs with
    | some (r,H2,m) =>some ((x,r),H2,(id,m))
    | none =>none
   | _ =>none
  | _ =>none
 | .lent c::ps,H,v::vs =>match v with
  | .sl id =>match get H id with
   | some (.row c' xs) =>match aka c' c xs with
    | some ys =>match au6 Z ps (del H id) vs with
     | some (r,H2,m) =>some ((ys,r),H2,(id,m))
     | none =>none
    | none =>none
   | _ =>none
  | _ =>none
 | _,_,_ =>none
def aiW:(ps:List Pk)→ayg S ps→apd S ps→S.kt.H→S.kt.H
 | [],_,_,H =>H
 | .sh _::ps,m,o,H =>aiW ps m o H
 | .val _::ps,m,o,H =>aiW ps m o H
 | .ref c::ps,m,o,H =>avR S c o.1 (aiW ps m.2 o.2 H) m.1
 | .mch::ps,m,o,H =>(m.1,.mach o.1)::aiW ps m.2 o.2 H
 | .lent c::ps,m,o,H =>(m.1,.row c o.1)::aiW ps m.2 o.2 H
def ams (ρ:Env):(ps:List Pk)→ayg S ps→List aak
 | [],_ =>[]
 | .sh _::ps,m =>ams ρ ps m
 | .val _::ps,m =>ams ρ ps m
 | .ref c::ps,m =>au8 S ρ c m.1::ams ρ ps m.2
 | .mch::ps,m =>ams ρ ps m.2
 | .lent _::ps,m =>ams ρ ps m.2
def alQ (ρ:Env):(ps:List Pk)→ayg S ps→List Value→Prop
 | [],_,_ =>True
 | .sh _::ps,m,_::vs =>alQ ρ ps m vs
 | .val _::ps,m,_::vs =>alQ ρ ps m vs
 | .ref c::ps,m,v::vs =>v=.pointer (some ⟨(ac1 S ρ c m.1).1,(ac1 S ρ c m.1).2,none⟩)∧alQ ρ ps m.2 vs
 | .mch::ps,m,v::vs =>v=ρ.v m.1∧alQ ρ ps m.2 vs
 | .lent _::ps,m,v::vs =>v=aaE ρ (.sl m.1)∧alQ ρ ps m.2 vs
 | _::_,_,[] =>False
end
section
variable {S:Shp} {B:Nat} {w:World} {ρ:Env}
theorem aBy {id c' c:Nat} {zs:List (S.T c')} {ys:List (S.T c)} {L:List aak} (s:Sat B w (act S.kt ρ id (.row c' zs)::L)) (hq:aka c' c zs=some ys):Sat B w (pcS S.kt (.row c ys) (aaE ρ (.sl id))::L):=by
 obtain ⟨e,he⟩:=afa hq
 subst e
 subst he
 refine abU (fun k hk =>?_) s
 rw [aa6]
 exact ⟨(ρ.s id).a,(ρ.s id).c,by rw [← hk.1]; rfl,hk.2⟩
theorem aDu {id c:Nat} {xs:List (S.T c)} {L:List aak} (s:Sat B w (pcS S.kt (.row c xs) (aaE ρ (.sl id))::L)):Sat B w (act S.kt ρ id (.row c xs)::L):=abU (fun k hk =>by
 rw [aa6] at hk
 obtain ⟨A,cap,e,h⟩:=hk
 injection e with e1 e2 e3
 subst e1 e3
 exact ⟨e2,h⟩) s
theorem akh {Z:S.kt.H}:∀ {ps:List Pk} {H H':S.kt.H} {vs:List V} {x:aqQ S ps} {m:ayg S ps},au6 S Z ps H vs=some (x,H',m)→∀ {X:List aak},Sat B w (dH S.kt ρ H++(dH S.kt ρ Z++X)) →
  alQ S ρ ps m (aas ρ vs)∧Sat B w (amo S ps x (aas ρ vs)++(ams S ρ ps m++(dH S.kt ρ H'++(dH S.kt ρ Z++X))))
 | [],H,H',[],x,m,h,X,s =>by cases h; exact ⟨trivial,s⟩
 | [],_,_,_::_,_,_,h,_,_ =>by cases h
 | .sh _::_,_,_,[],_,_,h,_,_ =>by cases h
 | .val _::_,_,_,[],_,_,h,_,_ =>by cases h
 | .ref _::_,_,_,[],_,_,h,_,_ =>by cases h
 | .mch::_,_,_,[],_,_,h,_,_ =>by cases h
 | .lent _::_,_,_,[],_,_,h,_,_ =>by cases h
 | .sh s0::ps,H,H',v::vs,x,m,h,X,s =>by
  unfold au6 at h
  split at h
  ·rename_i y H1 h1
   split at h
   ·rename_i r H2 m' h2
    cases h
    have s1:=ax6 h1 s
    obtain ⟨l,s2⟩:=akh h2 (X:=pcS S.kt (vw1 S.T S.M s0 y) (aaE ρ v)::X) (s1.perm (aaG fun f g h1 h2 h3 =>by simp only [h1,h2,h3]; omega))
    exact ⟨l,s2.perm (aaG fun f g h1 h2 h3 =>by simp only [h1,h2,h3,amo,aas,List.cons_append,ams]; omega)⟩
   ·cases h
  ·cases h
 | .val c::ps,H,H',v::vs,x,m,h,X,s =>by
  unfold au6 at h
  split at h
  ·rename_i y H1 h1
   split at h
   ·rename_i r H2 m' h2
    cases h
    have s1:=ax8 h1 s
    obtain ⟨l,s2⟩:=akh h2 (X:=ayp S c y (aaE ρ v)::X) (s1.perm (aaG fun f g h1 h2 h3 =>by simp only [h1,h2,h3]; omega))
    exact ⟨l,s2.perm (aaG fun f g h1 h2 h3 =>by simp only [h1,h2,h3,amo,aas,List.cons_append,ams]; omega)⟩
   ·cases h
  ·cases h
 | .ref c::ps,H,H',v::vs,x,m,h,X,s =>by
  unfold au6 at h
  split at h
  ·rename_i y H1 q h1
   split at h
   ·rename_i r H2 m' h2
    cases h
    obtain ⟨hv,s1⟩:=aye h1 s
    have s1':Sat B w (pcS S.kt (.own c y) (aaE ρ v)::au8 S ρ c q::(dH S.kt ρ H1++(dH S.kt ρ Z++X))):=abU (fun k hk =>aa6.2 (show pcW S.kt (obS S.kt) (rwS S.kt) (.own c y) (aaE ρ v) k from ⟨_,hv,hk⟩)) s1
    obtain ⟨l,s2⟩:=akh h2 (X:=pcS S.kt (.own c y) (aaE ρ v)::au8 S ρ c q::X) (s1'.perm (aaG fun f g h1 h2 h3 =>by simp only [h1,h2,h3]; omega))
    exact ⟨⟨hv,l⟩,s2.perm (aaG fun f g h1 h2 h3 =>by simp only [h1,h2,h3,amo,aas,List.cons_append,ams]; omega)⟩
   ·cases h
  ·cases h
 | .mch::ps,H,H',v::vs,x,m,h,X,s =>by
  unfold au6 at h
  split at h
  ·rename_i id
   split at h
   ·rename_i y hg
    split at h
    ·rename_i r H2 m' h2
     cases h
     have s1:=s.imp (aa4 (ρ:=ρ) hg)
     obtain ⟨l,s2⟩:=akh h2 (X:=pcS S.kt (.mach y) (ρ.v id)::X) (s1.perm (aaG fun f g h1 h2 h3 =>by simp only [h1,h2,h3,act]; omega))
     exact ⟨⟨rfl,l⟩,s2.perm (aaG fun f g h1 h2 h3 =>by simp only [h1,h2,h3,amo,aas,aaE,List.cons_append,ams]; omega)⟩
    ·cases h
   ·cases h
  ·cases h
 | .lent c::ps,H,H',v::vs,x,m,h,X,s =>by
  unfold au6 at h
  split at h
  ·rename_i id
   split at h
   ·rename_i c' zs hg
    split at h
    ·rename_i ys hq
     split at h
     ·rename_i r H2 m' h2
      cases h
      have s1:=aBy (s.imp (aa4 (ρ:=ρ) hg)) hq
      obtain ⟨l,s2⟩:=akh h2 (X:=pcS S.kt (.row c ys) (aaE ρ (.sl id))::X) (s1.perm (aaG fun f g h1 h2 h3 =>by simp only [h1,h2,h3]; omega))
      exact ⟨⟨rfl,l⟩,s2.perm (aaG fun f g h1 h2 h3 =>by simp only [h1,h2,h3,amo,aas,List.cons_append,ams]; omega)⟩
     ·cases h
    ·cases h
   ·cases h
  ·cases h
theorem aDH {c:Nat} {x:S.T c} {q:Nat×Nat} {L:List aak} (s:Sat B w (pcS S.kt (.own c x) (.pointer (some ⟨q.1,q.2,none⟩))::L)):Sat B w (obS S.kt c x q::L):=abU (fun k hk =>by
 rw [aa6] at hk
 obtain ⟨⟨a',b'⟩,e,h⟩:=hk
 obtain ⟨a,b⟩:=q
 cases e
 exact h) s
theorem ahO:∀ {ps:List Pk} {H:S.kt.H} {m:ayg S ps} {o:apd S ps} {vs:List Value} {X:List aak},alQ S ρ ps m vs→Sat B w (ag9 S ps o vs++(ams S ρ ps m++(dH S.kt ρ H++X)))→Sat B w (dH S.kt ρ (aiW S ps m o H)++X)
 | [],H,m,o,vs,X,_,s =>by cases vs<;>exact s
 | p::_,_,_,_,[],_,l,_ =>by cases p<;>exact l.elim
 | .sh _::ps,H,m,o,v::vs,X,l,s =>ahO (ps:=ps) l s
 | .val _::ps,H,m,o,v::vs,X,l,s =>ahO (ps:=ps) l s
 | .ref c::ps,H,m,o,v::vs,X,l,s =>by
  obtain ⟨hv,l'⟩:=l
  have s1:Sat B w (ag9 S ps o.2 vs++(ams S ρ ps m.2++(dH S.kt ρ H++(pcS S.kt (.own c o.1) v::au8 S ρ c m.1::X)))):=s.perm (aaG fun f g h1 h2 h3 =>by simp only [ag9,ams,List.cons_append,h1,h2,h3]; omega)
  have s2:=ahO l' s1
  rw [hv] at s2
  have s3:=aDH (q:=ac1 S ρ c m.1) (s2.perm (aid (dH S.kt ρ (aiW S ps m.2 o.2 H)) [] _ _))
  exact at5 (s3.perm (aaG fun f g h1 h2 h3 =>by simp only [h1,h2,h3]; omega))
 | .mch::ps,H,m,o,v::vs,X,l,s =>by
  obtain ⟨hv,l'⟩:=l
  have s1:Sat B w (ag9 S ps o.2 vs++(ams S ρ ps m.2++(dH S.kt ρ H++(pcS S.kt (.mach o.1) v::X)))):=s.perm (aaG fun f g h1 h2 h3 =>by simp only [ag9,ams,List.cons_append,h1,h2,h3]; omega)
  have s2:=ahO l' s1
  rw [hv] at s2
  exact s2.perm (aaG fun f g h1 h2 h3 =>by simp only [aiW,dH,List.map_cons,act,List.cons_append,h1,h2,h3]; omega)
 | .lent c::ps,H,m,o,v::vs,X,l,s =>by
  obtain ⟨hv,l'⟩:=l
  have s1:Sat B w (ag9 S ps o.2 vs++(ams S ρ ps m.2++(dH S.kt ρ H++(pcS S.kt (.row c o.1) v::X)))):=s.perm (aaG fun f g h1 h2 h3 =>by simp only [ag9,ams,List.cons_append,h1,h2,h3]; omega)
  have s2:=ahO l' s1
  rw [hv] at s2
  have s3:=aDu (s2.perm (aid (dH S.kt ρ (aiW S ps m.2 o.2 H)) [] _ _))
  exact s3.perm (aaG fun f g h1 h2 h3 =>by simp only [aiW,dH,List.map_cons,List.cons_append,List.nil_append,h1,h2,h3]; try omega)
structure Con (S:Shp) where
 f:FuncId
 ps:List Pk
 rs:List Rk
 spec:aqQ S ps→Option (atQ S rs×apd S ps)
def axI (S:Shp) (c:Con S) {α:Type} (vs:List V) (n:Nat) (Z H:S.kt.H) (k:Nat→S.kt.H→V→Option α):Option α :=
 match au6 S Z c.ps (aFG S.kt H) vs with
 | some (x,H1,m) =>(c.spec x).bind fun out =>match Nat.ble (aec (aiW S c.ps m out.2 H1)) n with
  | true =>k (aqO S c.rs out.1 n).2.2 ((aqO S c.rs out.1 n).2.1++aiW S c.ps m out.2 H1) (aA6 (aqO S c.rs out.1 n).1)
  | false =>none
 | none =>none
def atF (S:Shp):List (Con S)→ajL S.kt
 | [] =>fun _ _ _ _ _ _ _ =>none
 | c::l =>fun α f vs n Z H k =>match Nat.beq c.f f && (au6 S Z c.ps (aFG S.kt H) vs).isSome with
  | true =>axI S c vs n Z H k
  | false =>atF S l α f vs n Z H k
theorem asb:∀ {rs:List Rk} {x:atQ S rs} {n:Nat},n≤(aqO S rs x n).2.2
 | [],_,_ =>Nat.le_refl _
 | .sh _::rs,x,n =>Nat.le_trans (Nat.le_succ n) (asb (rs:=rs) (x:=x.2))
 | .val c::rs,x,n =>Nat.le_trans (Nat.le_add_right ..) (asb (rs:=rs) (x:=x.2))
theorem aqF [Tb] {P:Program} {W:World} (hg:aES B W):∀ {cs:List (Con S)},(∀ c∈cs,aAi S P c.f c.ps c.rs c.spec)→ajK S.kt P B W (atF S cs)
 | [],_ =>fun _ _ _ _ _ _ _ _ h =>by cases h
 | c::cs,h =>by
  intro α fid vs n Z H k out hk h1 h2 h3 F ρ w hw
  unfold atF at hk
  split at hk
  ·rename_i hc
   simp only [Bool.and_eq_true] at hc
   have hm:c∈c::cs:=List.mem_cons_self ..
   obtain rfl:=Nat.eq_of_beq_eq_true hc.1
   unfold axI at hk
   split at hk
   ·rename_i x H1 m hx
    cases hsp:c.spec x with
    | none =>rw [hsp] at hk; cases hk
    | some o =>
     rw [hsp] at hk
     simp only [Option.bind_some] at hk
     split at hk
     ·rename_i hB
      have hB':=Nat.le_of_ble_eq_true hB
      obtain ⟨l,s1⟩:=akh hx (X:=[F]) (aCG hw.2.2)
      have hcl:Cls B W (amo S c.ps x (aas ρ vs)++[aic (ams S ρ c.ps m++(dH S.kt ρ H1++(dH S.kt ρ Z++[F])))]) w:=⟨hw.1,hw.2.1,s1.fold⟩
      refine agh.mono (h c hm x o hsp B W hg (aas ρ vs) _ w hcl) ?_
      rintro e w' ⟨us,he,hb1,hb2,hs⟩
      have s2:Sat B w' (au7 S c.rs o.1 us++(ag9 S c.ps o.2 (aas ρ vs)++(ams S ρ c.ps m++(dH S.kt ρ H1++(dH S.kt ρ Z++[F]))))):=by
       rw [← List.append_assoc] at hs
       have:=hs.unfold
       rwa [List.append_assoc] at this
      have s3:Sat B w' (ag9 S c.ps o.2 (aas ρ vs)++(ams S ρ c.ps m++(dH S.kt ρ H1++(au7 S c.rs o.1 us++(dH S.kt ρ Z++[F]))))):=s2.perm (aaG fun f g h1 h2 h3 =>by simp only [h1,h2,h3]; omega)
      have s4:=ahO l s3
      have s5:Sat B w' (au7 S c.rs o.1 us++(fun ρ =>dH S.kt ρ (aiW S c.ps m o.2 H1)++tl S.kt Z F ρ) ρ):=s4.perm (ac8 _ _ _)
      obtain ⟨ρ',a,e1,s6⟩:=asa (n:=n) (X:=fun ρ =>dH S.kt ρ (aiW S c.ps m o.2 H1)++tl S.kt Z F ρ) (fun ρ ρ' ha =>by
       show _++_=_++_
       rw [ab9 ha _ hB',acv h2 ha]) s5
      refine ⟨⟨ρ',_,_,_⟩,⟨a,asb,hk⟩,?_,hb1,hb2,?_⟩
      ·rw [he,e1,asy]; rfl
      ·rw [dS,dHa,List.append_assoc]; exact s6
     ·cases hk
   ·cases hk
  ·exact aqF hg (fun d hd =>h d (List.mem_cons_of_mem _ hd)) _ _ _ _ _ _ _ _ hk h1 h2 h3 F ρ w hw
end
section
variable {S:Shp}
variable [Tb]
def CO (P:Program) (c:Con S):Prop:=aAi S P c.f c.ps c.rs c.spec
def Oks (P:Program):List (Con S)→Prop
 | [] =>True
 | c::l =>CO P c∧Oks P l
theorem Oks.mem {P:Program}:∀ {l:List (Con S)},Oks P l→∀ c∈l,CO P c
 | [],_,c,h =>by cases h
 | d::l,⟨h1,h2⟩,c,h =>(List.mem_cons.1 h).elim (fun e =>by subst e; exact h1) (h2.mem c)
def Tbs (P:Program):List (Nat×Func)→Prop
 | [] =>True
 | p::l =>P.funcs[p.1]?=some p.2∧Tbs P l
theorem Tbs.mem {P:Program}:∀ {l:List (Nat×Func)},Tbs P l→∀ p∈l,P.funcs[p.1]?=some p.2
 | [],_,c,h =>by cases h
 | d::l,⟨h1,h2⟩,c,h =>(List.mem_cons.1 h).elim (fun e =>by subst e; exact h1) (h2.mem c)
noncomputable abbrev evC (P:Program) (tb:List (Nat×Func)) (hsf:Nat→List (Nat×Hint)) (cs:List (Con S)) (hs:List (Nat×Hint)) (fn:Func) (c:Con S) (x:aqQ S c.ps):Option (atQ S c.rs×apd S c.ps) :=
 evF S P (inl S P tb hsf (atF S cs) tb.length) hs fn (cin S c.ps x 0).1 (cin S c.ps x 0).2.2 [] (cin S c.ps x 0).2.1 (aE9 S c.ps c.rs)
theorem abc {P:Program} (hm:P.follows .mixedOrders=true) {c:Con S} {fn:Func} (hf:P.funcs[c.f]?=some fn) (cs:List (Con S)) (h:Oks P cs) (tb:List (Nat×Func)) (ht:Tbs P tb) (hsf:Nat→List (Nat×Hint)) (hs:List (Nat×Hint))
  (he:∀ x,evC P tb hsf cs hs fn c x=c.spec x) (hb:Nat.blt c.f ae8=true:=by rfl):CO P c :=
 az3 hm hf (fun _ _ hg =>aAN hm ht.mem (aqF hg h.mem) tb.length) he hb
theorem aFF {P:Program} {c:Con S} (h:CO P c) {spec:aqQ S c.ps→Option (atQ S c.rs×apd S c.ps)} (he:∀ x out,spec x=some out→c.spec x=some out):CO P ⟨c.f,c.ps,c.rs,spec⟩:=fun x out hx =>h x out (he x out hx)
end
section
variable {S:Shp}
variable [Tb]
end
structure EnvV where
 c:Cfg
 m:MemV
 now:Int
 draw:Int
 recs:List RecV
 evs:List Ev
structure MaV where
 f:List FrV
 over:Bool
 code:Int
 value:Int
structure EngV where
 e:EnvV
 m:List MaV
 n:Int
 stamps:List Int
 last:AccV
structure CodV where
 inn:List Int
 out:List Int
 at_:Int
 bad:Bool
structure FgV where
 acc:Int
 rej:Int
 spa:Int
 ref:Int
 sta:Int
 fin:Int
 ste:Int
 ski:Int
 boo:Int
 age:Int
 par:Int
 lat:Int
 wor:Int
 deriving DecidableEq
structure OutV where
 ended:Bool
 code:Int
 value:Int
 deriving DecidableEq
structure LayV where
 workers:Int
 levels:Int
 classes:Int
 tasks:Int
 deque:Int
 heap:Int
 sleepers:Int
 epochs:Int
 bitmaps:Int
 queues:Int
 table:Int
 deriving DecidableEq
structure ClkV where
 now:Int
 draw:Int
 deriving DecidableEq
structure RecP where
 prog:Int
 parent:Int
 pc:Int
 left:Int
 waiting:Int
 kids:List Int
 started:Bool
 deriving DecidableEq
structure EnvP where
 c:Cfg
 l:LayV
 m:MemV
 k:ClkV
 recs:List RecP
 evs:List Ev
structure B16 where
 b0:Int
 b1:Int
 b2:Int
 b3:Int
 b4:Int
 b5:Int
 b6:Int
 b7:Int
 b8:Int
 b9:Int
 b10:Int
 b11:Int
 b12:Int
 b13:Int
 b14:Int
 b15:Int
 deriving DecidableEq
inductive MV where
 | nil
def TR:Nat→Type
 | 0 =>Int
 | 1 =>Int
 | 2 =>Ev
 | 3 =>Ins
 | 4 =>Sub
 | 5 =>EntV
 | 6 =>St
 | 7 =>RecV
 | 8 =>FrV
 | 9 =>MemV
 | 10 =>ResV
 | 11 =>MaV
 | 12 =>EnvV
 | 13 =>Cfg
 | 14 =>QV
 | 15 =>MaV
 | 16 =>EngV
 | 17 =>Int
 | 18 =>List Ins
 | 19 =>CodV
 | 20 =>Cfg
 | 21 =>FgV
 | 22 =>List Int
 | 23 =>OutV
 | 24 =>LayV
 | 25 =>ClkV
 | 26 =>RecP
 | 27 =>EnvP
 | 28 =>MV
 | 31 =>AccV
 | 43 =>Bool
 | _ =>Unit
abbrev sI_:Sh:=.i .i64
abbrev sU_:Sh:=.i .u64
def shR:Nat→List Sh
 | 0 =>[sU_]
 | 1 =>[sI_]
 | 2 =>[sI_,sI_,sI_,sI_,sI_]
 | 3 =>[sI_,sI_,sI_]
 | 4 =>[sI_,sI_,sI_]
 | 5 =>[sI_,sI_]
 | 6 =>[sI_,sI_,sI_,sI_,sI_,sI_]
 | 7 =>[sI_,sI_,sI_,sI_,sI_,.ro 1,.b]
 | 8 =>[sI_,sI_,sI_,sI_,sI_,sI_,sI_,sI_,sI_,sI_,sI_,sI_,sI_,sU_,sU_,sU_,sU_,.ro 1]
 | 9 =>[.row 0,sI_,sI_,sU_,sU_,sI_]
 | 10 =>[.b,sI_,sI_]
 | 11 =>[.row 8,.b,sI_,sI_]
 | 12 =>[sI_,sI_,sI_,sI_,sI_,sI_,sI_,sI_,sI_,.rr 3,.ro 4,.row 0,sI_,sI_,sU_,sU_,sI_,sI_,sI_,.row 7,.row 2]
 | 13 =>[sI_,sI_,sI_,sI_,sI_,sI_,sI_,sI_,sI_,.rr 3,.ro 4]
 | 14 =>[sI_,sI_,sI_,sI_]
 | 15 =>[.own 11]
 | 16 =>[.own 12,.row 15,sI_,.row 1,sI_,sI_,sU_,sU_]
 | 17 =>[.i .u8]
 | 18 =>[.ro 3]
 | 19 =>[.ro 17,.ro 17,sI_,.b]
 | 20 =>[sI_,sI_,sI_,sI_,sI_,sI_,sI_,sI_,sI_,.row 18,.row 4]
 | 21 =>[sI_,sI_,sI_,sI_,sI_,sI_,sI_,sI_,sI_,sI_,sI_,sI_,sI_]
 | 22 =>[.ro 1]
 | 23 =>[.b,sI_,sI_]
 | 24 =>[sI_,sI_,sI_,sI_,sI_,sI_,sI_,sI_,sI_,sI_,sI_]
 | 25 =>[sI_,sI_]
 | 26 =>[sI_,sI_,sI_,sI_,sI_,.row 1,.b]
 | 27 =>[sI_,sI_,sI_,sI_,sI_,sI_,sI_,sI_,sI_,.rr 3,.ro 4,sI_,sI_,sI_,sI_,sI_,sI_,sI_,sI_,sI_,sI_,sI_,.own 9,.own 25,.row 26,.row 2]
 | 28 =>[.mach]
 | 31 =>[sI_,sI_,sU_,sU_]
 | 43 =>[.b]
 | _ =>[]
def toR:(c:Nat)→TR c→HL TR MV (shR c)
 | 0 =>fun x =>(x,())
 | 1 =>fun x =>(x,())
 | 2 =>fun x =>(x.kind,x.worker,x.task,x.other,x.level,())
 | 3 =>fun x =>(x.op,x.a,x.b,())
 | 4 =>fun x =>(x.prog,x.level,x.deadline,())
 | 5 =>fun x =>(x.kind,x.value,())
 | 6 =>fun x =>(x.at_,x.ev.kind,x.ev.worker,x.ev.task,x.ev.other,x.ev.level,())
 | 7 =>fun x =>(x.prog,x.parent,x.pc,x.left,x.waiting,x.kids,x.started,())
 | 8 =>fun x =>(x.kind,x.line,x.q.top,x.q.bottom,x.q.ring,x.q.cap,x.a,x.b,x.d,x.i,x.j,x.n,x.t,x.u,x.v,x.w,x.x,x.l,())
 | 9 =>fun x =>(x.cells,x.last.kind,x.last.cell,x.last.old,x.last.new,x.count,())
 | 10 =>fun x =>(x.done,x.code,x.value,())
 | 11 =>fun x =>(x.f,x.over,x.code,x.value,())
 | 12 =>fun x =>(x.c.workers,x.c.levels,x.c.classes,x.c.tasks,x.c.deque,x.c.heap,x.c.batch,x.c.age,x.c.patience,x.c.progs,x.c.subs,x.m.cells,x.m.last.kind,x.m.last.cell,x.m.last.old,x.m.last.new,x.m.count,x.now,x.draw,x.recs,x.evs,())
 | 13 =>fun x =>(x.workers,x.levels,x.classes,x.tasks,x.deque,x.heap,x.batch,x.age,x.patience,x.progs,x.subs,())
 | 14 =>fun x =>(x.top,x.bottom,x.ring,x.cap,())
 | 15 =>fun x =>(x,())
 | 16 =>fun x =>(x.e,x.m,x.n,x.stamps,x.last.kind,x.last.cell,x.last.old,x.last.new,())
 | 17 =>fun x =>(x,())
 | 18 =>fun x =>(x,())
 | 19 =>fun x =>(x.inn,x.out,x.at_,x.bad,())
 | 20 =>fun x =>(x.workers,x.levels,x.classes,x.tasks,x.deque,x.heap,x.batch,x.age,x.patience,x.progs,x.subs,())
 | 21 =>fun x =>(x.acc,x.rej,x.spa,x.ref,x.sta,x.fin,x.ste,x.ski,x.boo,x.age,x.par,x.lat,x.wor,())
 | 22 =>fun x =>(x,())
 | 23 =>fun x =>(x.ended,x.code,x.value,())
 | 24 =>fun x =>(x.workers,x.levels,x.classes,x.tasks,x.deque,x.heap,x.sleepers,x.epochs,x.bitmaps,x.queues,x.table,())
 | 25 =>fun x =>(x.now,x.draw,())
 | 26 =>fun x =>(x.prog,x.parent,x.pc,x.left,x.waiting,x.kids,x.started,())
 | 27 =>fun x =>(x.c.workers,x.c.levels,x.c.classes,x.c.tasks,x.c.deque,x.c.heap,x.c.batch,x.c.age,x.c.patience,x.c.progs,x.c.subs,x.l.workers,x.l.levels,x.l.classes,x.l.tasks,x.l.deque,x.l.heap,x.l.sleepers,x.l.epochs,x.l.bitmaps,x.l.queues,x.l.table,x.m,x.k,x.recs,x.evs,())
 | 28 =>fun x =>(x,())
 | 31 =>fun x =>(x.kind,x.cell,x.old,x.new,())
 | 43 =>fun x =>(x,())
 | 29 =>fun _ =>()
 | 30 =>fun _ =>()
 | 32 =>fun _ =>()
 | 33 =>fun _ =>()
 | 34 =>fun _ =>()
 | 35 =>fun _ =>()
 | 36 =>fun _ =>()
 | 37 =>fun _ =>()
 | 38 =>fun _ =>()
 | 39 =>fun _ =>()
 | 40 =>fun _ =>()
 | 41 =>fun _ =>()
 | 42 =>fun _ =>()
 | _+44 =>fun _ =>()
def ofR:(c:Nat)→HL TR MV (shR c)→TR c
 | 0 =>fun p =>p.1
 | 1 =>fun p =>p.1
 | 2 =>fun ⟨a,b,c,d,e,_⟩ =>⟨a,b,c,d,e⟩
 | 3 =>fun ⟨a,b,c,_⟩ =>⟨a,b,c⟩
 | 4 =>fun ⟨a,b,c,_⟩ =>⟨a,b,c⟩
 | 5 =>fun ⟨a,b,_⟩ =>⟨a,b⟩
 | 6 =>fun ⟨z,a,b,c,d,e,_⟩ =>⟨z,⟨a,b,c,d,e⟩⟩
 | 7 =>fun ⟨a,b,c,d,e,f,g,_⟩ =>⟨a,b,c,d,e,f,g⟩
 | 8 =>fun ⟨a,b,q1,q2,q3,q4,c,d,e,f,g,h,i,j,k,l,m,n,_⟩ =>⟨a,b,⟨q1,q2,q3,q4⟩,c,d,e,f,g,h,i,j,k,l,m,n⟩
 | 9 =>fun ⟨a,b,c,d,e,f,_⟩ =>⟨a,⟨b,c,d,e⟩,f⟩
 | 10 =>fun ⟨a,b,c,_⟩ =>⟨a,b,c⟩
 | 11 =>fun ⟨a,b,c,d,_⟩ =>⟨a,b,c,d⟩
 | 12 =>fun ⟨a1,a2,a3,a4,a5,a6,a7,a8,a9,a10,a11,b1,b2,b3,b4,b5,b6,c,d,e,f,_⟩ =>⟨⟨a1,a2,a3,a4,a5,a6,a7,a8,a9,a10,a11⟩,⟨b1,⟨b2,b3,b4,b5⟩,b6⟩,c,d,e,f⟩
 | 13 =>fun ⟨a1,a2,a3,a4,a5,a6,a7,a8,a9,a10,a11,_⟩ =>⟨a1,a2,a3,a4,a5,a6,a7,a8,a9,a10,a11⟩
 | 14 =>fun ⟨a,b,c,d,_⟩ =>⟨a,b,c,d⟩
 | 15 =>fun p =>p.1
 | 16 =>fun ⟨a,b,c,d,l1,l2,l3,l4,_⟩ =>⟨a,b,c,d,⟨l1,l2,l3,l4⟩⟩
 | 17 =>fun p =>p.1
 | 18 =>fun p =>p.1
 | 19 =>fun ⟨a,b,c,d,_⟩ =>⟨a,b,c,d⟩
 | 20 =>fun ⟨a1,a2,a3,a4,a5,a6,a7,a8,a9,a10,a11,_⟩ =>⟨a1,a2,a3,a4,a5,a6,a7,a8,a9,a10,a11⟩
 | 21 =>fun ⟨a0,a1,a2,a3,a4,a5,a6,a7,a8,a9,a10,a11,a12,_⟩ =>⟨a0,a1,a2,a3,a4,a5,a6,a7,a8,a9,a10,a11,a12⟩
 | 22 =>fun p =>p.1
 | 23 =>fun ⟨a0,a1,a2,_⟩ =>⟨a0,a1,a2⟩
 | 24 =>fun ⟨a0,a1,a2,a3,a4,a5,a6,a7,a8,a9,a10,_⟩ =>⟨a0,a1,a2,a3,a4,a5,a6,a7,a8,a9,a10⟩
 | 25 =>fun ⟨a0,a1,_⟩ =>⟨a0,a1⟩
 | 26 =>fun ⟨a0,a1,a2,a3,a4,a5,a6,_⟩ =>⟨a0,a1,a2,a3,a4,a5,a6⟩
 | 27 =>fun ⟨a0,a1,a2,a3,a4,a5,a6,a7,a8,a9,a10,a11,a12,a13,a14,a15,a16,a17,a18,a19,a20,a21,a22,a23,a24,a25,_⟩ =>⟨⟨a0,a1,a2,a3,a4,a5,a6,a7,a8,a9,a10⟩,⟨a11,a12,a13,a14,a15,a16,a17,a18,a19,a20,a21⟩,a22,a23,a24,a25⟩
 | 28 =>fun p =>p.1
 | 31 =>fun ⟨a0,a1,a2,a3,_⟩ =>⟨a0,a1,a2,a3⟩
 | 43 =>fun p =>p.1
 | 29 =>fun _ =>()
 | 30 =>fun _ =>()
 | 32 =>fun _ =>()
 | 33 =>fun _ =>()
 | 34 =>fun _ =>()
 | 35 =>fun _ =>()
 | 36 =>fun _ =>()
 | 37 =>fun _ =>()
 | 38 =>fun _ =>()
 | 39 =>fun _ =>()
 | 40 =>fun _ =>()
 | 41 =>fun _ =>()
 | 42 =>fun _ =>()
 | _+44 =>fun _ =>()
def dfR:(c:Nat)→TR c
 | 0 =>(default:Int)
 | 1 =>(default:Int)
 | 2 =>(default:Ev)
 | 3 =>(default:Ins)
 | 4 =>(default:Sub)
 | 5 =>(default:EntV)
 | 6 =>⟨0,default⟩
 | 7 =>(default:RecV)
 | 8 =>(default:FrV)
 | 9 =>(default:MemV)
 | 10 =>(default:ResV)
 | 11 =>⟨[],false,0,0⟩
 | 12 =>⟨⟨0,0,0,0,0,0,0,0,0,[],[]⟩,default,0,0,[],[]⟩
 | 13 =>⟨0,0,0,0,0,0,0,0,0,[],[]⟩
 | 14 =>(default:QV)
 | 15 =>⟨[],false,0,0⟩
 | 16 =>⟨⟨⟨0,0,0,0,0,0,0,0,0,[],[]⟩,default,0,0,[],[]⟩,[],0,[],default⟩
 | 17 =>(default:Int)
 | 18 =>[]
 | 19 =>⟨[],[],0,false⟩
 | 20 =>⟨0,0,0,0,0,0,0,0,0,[],[]⟩
 | 21 =>⟨0,0,0,0,0,0,0,0,0,0,0,0,0⟩
 | 22 =>[]
 | 23 =>⟨false,0,0⟩
 | 24 =>⟨0,0,0,0,0,0,0,0,0,0,0⟩
 | 25 =>⟨0,0⟩
 | 26 =>⟨0,0,0,0,0,[],false⟩
 | 27 =>⟨⟨0,0,0,0,0,0,0,0,0,[],[]⟩,⟨0,0,0,0,0,0,0,0,0,0,0⟩,default,⟨0,0⟩,[],[]⟩
 | 28 =>MV.nil
 | 31 =>⟨0,0,0,0⟩
 | 43 =>false
 | 29 =>()
 | 30 =>()
 | 32 =>()
 | 33 =>()
 | 34 =>()
 | 35 =>()
 | 36 =>()
 | 37 =>()
 | 38 =>()
 | 39 =>()
 | 40 =>()
 | 41 =>()
 | 42 =>()
 | _+44 =>()
abbrev aeG (xs:List Int) (i:Int):Int:=atL (dfR 0:TR 0) xs i
abbrev au9 (xs:List Int) (i:Int):Int:=atL (dfR 1:TR 1) xs i
abbrev afW (xs:List Ins) (i:Int):Ins:=atL (dfR 3:TR 3) xs i
abbrev akM (xs:List Sub) (i:Int):Sub:=atL (dfR 4:TR 4) xs i
abbrev aEL (xs:List EntV) (i:Int):EntV:=atL (dfR 5:TR 5) xs i
abbrev abH (xs:List RecV) (i:Int):RecV:=atL (dfR 7:TR 7) xs i
abbrev au3 (xs:List FrV) (i:Int):FrV:=atL (dfR 8:TR 8) xs i
abbrev adm (xs:List Int) (i:Int):Int:=atL (dfR 17:TR 17) xs i
abbrev aif (xs:List MaV) (i:Int):MaV:=atL (dfR 15:TR 15) xs i
theorem aA8:∀ c p,toR c (ofR c p)=p
 | 0,_ =>rfl
 | 1,_ =>rfl
 | 2,_ =>rfl
 | 3,_ =>rfl
 | 4,_ =>rfl
 | 5,_ =>rfl
 | 6,_ =>rfl
 | 7,_ =>rfl
 | 8,_ =>rfl
 | 9,_ =>rfl
 | 10,_ =>rfl
 | 11,_ =>rfl
 | 12,_ =>rfl
 | 13,_ =>rfl
 | 14,_ =>rfl
 | 15,_ =>rfl
 | 16,_ =>rfl
 | 17,_ =>rfl
 | 18,_ =>rfl
 | 19,_ =>rfl
 | 20,_ =>rfl
 | 21,_ =>rfl
 | 22,_ =>rfl
 | 23,_ =>rfl
 | 24,_ =>rfl
 | 25,_ =>rfl
 | 26,_ =>rfl
 | 27,_ =>rfl
 | 28,_ =>rfl
 | 31,_ =>rfl
 | 43,_ =>rfl
 | 29,_ =>rfl
 | 30,_ =>rfl
 | 32,_ =>rfl
 | 33,_ =>rfl
 | 34,_ =>rfl
 | 35,_ =>rfl
 | 36,_ =>rfl
 | 37,_ =>rfl
 | 38,_ =>rfl
 | 39,_ =>rfl
 | 40,_ =>rfl
 | 41,_ =>rfl
 | 42,_ =>rfl
 | _+44,_ =>rfl
def lsR:(c c':Nat)→Option (PLift (TR c'=List (TR c)))
 | 3,18 =>some ⟨rfl⟩
 | 1,22 =>some ⟨rfl⟩
 | _,_ =>none
theorem aDV:∀ c c' h,lsR c c'=some h→∀ x,vwP TR MV (shR c') (toR c' x)=[.ro c (h.down▸x)]:=by
 intro c c' h hl x
 unfold lsR at hl
 split at hl
 ·rfl
 ·rfl
 ·cases hl
def aFQ:MV→Option (Σ c:Nat,TR c)
 | .nil =>none
def mkR:(c:Nat)→TR c→Option MV
 | _,_ =>none
theorem aDT:∀ c x m,mkR c x=some m→aFQ m=some ⟨c,x⟩:=by
 intro c x m h
 unfold mkR at h
 split at h<;>first | (cases h; rfl) | cases h
def aET (td:List (Nat×TypeId)) (c:Nat):TypeId:=(get td c).getD 0
def kdR (td:List (Nat×TypeId)) (t:TypeId):List (Nat×TypeId)→Option Nat
 | [] =>none
 | p::l =>match Nat.beq p.2 t && Nat.beq (aET td p.1) t with
 | true =>some p.1
 | false =>kdR td t l
theorem aAM {td:List (Nat×TypeId)} {t:TypeId}:∀ {l:List (Nat×TypeId)} {c:Nat},kdR td t l=some c→aET td c=t
 | [],_,h =>by cases h
 | p::l,c,h =>by
  unfold kdR at h
  split at h
  ·rename_i hb
   cases h
   simp only [Bool.and_eq_true] at hb
   exact Nat.eq_of_beq_eq_true hb.2
  ·exact aAM h
def SR (tk:TypeId→Option Nat) (td:List (Nat×TypeId)):Shp:={ T:=TR,M:=MV,sh:=shR,to_:=toR,of:=ofR,ok:=aA8,df:=dfR,tid:=aET td,tk:=tk,spl:=aFQ,nilM:=.nil,nilM_ok:=rfl,mkM:=mkR,mkM_ok:=aDT,kd:=fun t =>kdR td t td,kd_ok:=fun _ _ h =>aAM h,ls:=lsR,ls_ok:=(fun c c' h e x =>Or.inl (aDV c c' h e x)) }
end
section
open Go Go.RowKit
set_option maxRecDepth 100000
def tkR:TypeId→Option Nat:=fun t =>get [(3,1),(4,43),(5,17),(24,22),(29,13),(38,0),(40,31),(42,9),(46,12),(50,16),(65,24),(69,27),(77,15),(80,14),(82,8),(85,5),(109,2),(119,7),(124,9),(127,19),(129,18),(131,3),(133,4),(139,11),(167,25),(185,10),(201,23)] t
def tdR:List (Nat×TypeId):=[]
abbrev SR1:=SR tkR tdR
theorem abb:Tryz.prog.follows .mixedOrders=true:=by kernel_rfl
end
section
open Go Go.RowKit
section
variable {B:Nat} {w w':World} {L:List aak} {A:Option Addr} {n cap sz:Nat} {xs:List Value} {el:TypeId}
end
section
variable {α:Type} {enc:α→List Value} {sz B:Nat} {w:World} {A:Option Addr} {c:Nat} {xs:List α} {L:List aak}
theorem aDn (hz:0<sz) (henc:∀ x,(enc x).length=sz) (hS:Sl enc sz w B A xs) (hc:xs.length≤c) (s:Sat B w L):Sat B w (roS enc sz A c xs::L):=by
 obtain ⟨h,H,hs⟩:=s
 refine ⟨acI (fun b o =>if b<B then (w.cell? ⟨b,o,none⟩).map .look else none) h,?_,_,h,?_,rfl,?_,hs⟩
 ·intro b o x hx
  unfold acI at hx
  by_cases hb:b<B
  ·simp only [if_pos hb] at hx
   cases hv:w.cell? ⟨b,o,none⟩ with
   | none =>rw [hv] at hx; exact H b o x hx
   | some v =>
    rw [hv] at hx
    obtain rfl:=Option.some.inj hx
    exact ⟨.inr trivial,hv⟩
  ·simp only [if_neg hb] at hx
   exact H b o x hx
 ·intro b o
  by_cases hb:b<B
  ·simp only [if_pos hb]
   cases hv:w.cell? ⟨b,o,none⟩ with
   | none =>exact .inl rfl
   | some v =>
    cases hh:h b o with
    | none =>exact .inr (.inl rfl)
    | some y =>
     obtain ⟨h1,h2⟩:=H b o y hh
     cases y with
     | cell v' =>exact absurd (h1.resolve_right id) (by omega)
     | obj v' =>exact absurd (h1.resolve_right id) (by omega)
     | look v' =>
      have h3:w.cell? ⟨b,o,none⟩=some v':=h2
      rw [hv] at h3
      obtain rfl:=Option.some.inj h3
      exact .inr (.inr ⟨v,rfl,rfl⟩)
  ·simp only [if_neg hb]; exact .inl rfl
 ·refine ⟨fun b o =>if b<B then (w.cell? ⟨b,o,none⟩).map .look else none,fun b o x hx =>⟨?_,hx⟩,fun u hu =>⟨⟨hS.1,fun hne =>?_⟩,hc⟩⟩
  ·by_cases hb:b<B
   ·simp only [if_pos hb] at hx
    cases hv:w.cell? ⟨b,o,none⟩ with
    | none =>rw [hv] at hx; cases hx
    | some v =>rw [hv] at hx; exact ⟨v,(Option.some.inj hx).symm⟩
   ·simp only [if_neg hb] at hx; cases hx
  ·obtain ⟨b,o,hA,hb,hcell⟩:=hS.2 hne
   have key:∀ (i:Nat) x,xs[i]?=some x→∀ (j:Nat) v,(enc x)[j]?=some v→u.cell? ⟨b,o+i*sz+j,none⟩=some v:=fun i x hx j v hv =>by
    have h1:=hcell i x hx j v hv
    exact hu b (o+i*sz+j) (.look v) (by simp only [if_pos hb,h1]; rfl)
   refine ⟨b,o,hA,?_,key⟩
   cases xs with
   | nil =>exact absurd rfl hne
   | cons x xs =>
    cases hx:enc x with
    | nil =>have:=henc x; rw [hx] at this; simp at this; omega
    | cons y ys =>exact ano (key 0 x rfl 0 y (by rw [hx]; rfl))
end
section
variable {S:Shp} {B:Nat} {w:World} {L:List aak} {v:Value}
theorem ak2 {f:Fl S.T S.M} {p:aak} (h0:∀ h,pcW S.kt (fun _ _ _ _ =>False) (fun _ _ _ _ _ =>False) f v h→p h) (h1:∀ n h,pcW S.kt (obW S.kt (pcN S.kt n)) (rwW S.kt (pcN S.kt n)) f v h→p h):∀ h,pcS S.kt f v h→p h:=fun h ⟨n,hn⟩ =>by
 cases n with
 | zero =>exact h0 h hn
 | succ n =>exact h1 n h hn
theorem avD {k:IntKind} {x:Int} (s:Sat B w (pcS S.kt (.i k x) v::L)):v=.int k x∧Sat B w L:=by
 have s1:Sat B w (akP (v=.int k x)::L):=abU (ak2 (f:=.i k x) (fun _ h =>h) fun _ _ h =>h) s
 obtain ⟨h,H,k1,k2,a,e,h1,h2⟩:=s1
 exact ⟨h1,s.drop⟩
theorem aDm {c:Nat} {xs:List (S.T c)} (s:Sat B w (pcS S.kt (.ro c xs) v::L)):∃ A cap,v=.slice A xs.length cap∧Sl (aex S.kt c) (S.kt.sz c) w w.heap.size A xs:=by
 have s1:Sat B w ((fun h =>∃ A cap,v=.slice A xs.length cap∧roS (aex S.kt c) (S.kt.sz c) A cap xs h)::L):=abU (ak2 (f:=.ro c xs) (fun _ h =>h) fun _ _ h =>h) s
 obtain ⟨h,H,k1,k2,a,e,⟨A,cap,e1,h1⟩,h2⟩:=s1
 have s2:Sat B w (roS (aex S.kt c) (S.kt.sz c) A cap xs::L):=⟨h,H,k1,k2,a,e,h1,h2⟩
 exact ⟨A,cap,e1,(anU s2 List.mem_cons_self).1⟩
theorem aDl {c:Nat} {xss:List (List (S.T c))} (s:Sat B w (pcS S.kt (.rr c xss) v::L)):∃ A cap,v=.slice A xss.length cap∧xss.length≤9223372036854775807∧∃ ps:List (Option Addr×Nat),
  ∀ (i:Nat) xs,xss[i]?=some xs→∃ a,ps[i]?=some a∧(Sl (aex S.kt c) (S.kt.sz c) w w.heap.size a.1 xs∧xs.length≤a.2)∧∃ b o,A=some ⟨b,o,none⟩∧b<w.heap.size∧w.cell? ⟨b,o+i,none⟩=some (.slice a.1 xs.length a.2):=by
 have s1:Sat B w ((fun h =>∃ A cap,v=.slice A xss.length cap∧rrS (aex S.kt c) (S.kt.sz c) A cap xss h)::L):=abU (ak2 (f:=.rr c xss) (fun _ h =>h) fun _ _ h =>h) s
 obtain ⟨h,H,k1,k2,a,e,⟨A,cap,e1,ps,h1⟩,h2⟩:=s1
 have s2:Sat B w (afr _::L):=⟨h,H,k1,k2,a,e,h1,h2⟩
 have h3:=ak4 s2 List.mem_cons_self
 exact ⟨A,cap,e1,h3.1.1,ps,h3.2⟩
theorem avE {f:Fl S.T S.M} {fs:List (Fl S.T S.M)} {us:List Value} (s:Sat B w (fsS (pcS S.kt) (f::fs) us++L)):∃ u us',us=u::us'∧Sat B w (pcS S.kt f u::(fsS (pcS S.kt) fs us'++L)):=by
 cases us with
 | nil =>exact ab5 s
 | cons u us' =>exact ⟨u,us',rfl,s⟩
theorem aBr {us:List Value} (s:Sat B w (fsS (pcS S.kt) [] us++L)):us=[]∧Sat B w L:=by
 cases us with
 | nil =>exact ⟨rfl,s⟩
 | cons u us' =>exact ab5 s
theorem aiS {k:IntKind} {x:Int} {fs:List (Fl S.T S.M)} {us:List Value} (s:Sat B w (fsS (pcS S.kt) (.i k x::fs) us++L)):∃ us',us=.int k x::us'∧Sat B w (fsS (pcS S.kt) fs us'++L):=by
 obtain ⟨u,us',e,s1⟩:=avE s
 obtain ⟨e2,s2⟩:=avD s1
 subst e2
 exact ⟨us',e,s2⟩
def awk:List (Fl S.T S.M)→Bool
 | [] =>true
 | .i ..::l =>awk l
 | .b ..::l =>awk l
 | _ =>false
theorem ajP:∀ (fs:List (Fl S.T S.M)) (h:Hp),awk fs=true→ab0 (fsS (pcS S.kt) fs (fs.map flV)) h
 | [],_,_ =>trivial
 | .i k x::l,h,hp =>⟨fun _ _ =>none,h,fun _ _ =>.inl rfl,by funext a b; rfl,⟨0,rfl⟩,ajP l h hp⟩
 | .b x::l,h,hp =>⟨fun _ _ =>none,h,fun _ _ =>.inl rfl,by funext a b; rfl,⟨0,rfl⟩,ajP l h hp⟩
theorem aAr {k:IntKind} {x:Int} (s:Sat B w L):Sat B w (pcS S.kt (.i k x) (.int k x)::L):=abP s fun _ =>⟨0,rfl⟩
end
section
variable {S:Shp} {B:Nat} {w:World} {L:List aak}
theorem apw {c:Nat} (hp:∀ x,awk (S.kt.vw c x)=true):∀ (xs:List (S.T c)) (h:Hp),ab0 (ab1 S.kt (pcS S.kt) c xs (xs.map (aex S.kt c))) h
 | [],_ =>trivial
 | x::xs,h =>aau.2 ⟨fun _ _ =>none,h,fun _ _ =>.inl rfl,by funext a b; rfl,ajP _ _ (hp x),apw hp xs h⟩
theorem anS {c cap:Nat} {A:Option Addr} {xs:List (S.T c)} (hp:∀ x,awk (S.kt.vw c x)=true) (s:Sat B w (abA A xs.length cap (S.kt.sz c) (xs.flatMap (aex S.kt c))::L)):Sat B w (pcS S.kt (.row c xs) (.slice A xs.length cap)::L):=by
 refine abU (fun k hk =>aa6.2 (show pcW S.kt (obS S.kt) (rwS S.kt) (.row c xs) _ k from ⟨A,cap,rfl,acw.2 ⟨xs.map (aex S.kt c),?_⟩⟩)) s
 have e:(xs.map (aex S.kt c)).flatten=xs.flatMap (aex S.kt c):=by rw [List.flatMap_def]
 rw [e]
 exact ⟨k,fun _ _ =>none,fun _ _ =>.inr (.inl rfl),by funext a b; unfold acI; cases k a b<;>rfl,hk,apw hp xs _⟩
end
section
variable {B:Nat} {w:World} {L:List aak} {v:Value}
theorem avF {c:Cfg} (s:Sat B w (ayp SR1 13 c v::L)):∃ p,v=acM c p∧acR w w.heap.size c p∧Sat B w L:=by
 obtain ⟨us,e,s0⟩:=ard s
 have s0':Sat B w (fsS (pcS SR1.kt) [.i .i64 c.workers,.i .i64 c.levels,.i .i64 c.classes,.i .i64 c.tasks,.i .i64 c.deque,.i .i64 c.heap,.i .i64 c.batch,.i .i64 c.age,.i .i64 c.patience,.rr 3 c.progs,.ro 4 c.subs] us++L):=s0
 obtain ⟨us1,rfl,s1⟩:=aiS s0'
 obtain ⟨us2,rfl,s2⟩:=aiS s1
 obtain ⟨us3,rfl,s3⟩:=aiS s2
 obtain ⟨us4,rfl,s4⟩:=aiS s3
 obtain ⟨us5,rfl,s5⟩:=aiS s4
 obtain ⟨us6,rfl,s6⟩:=aiS s5
 obtain ⟨us7,rfl,s7⟩:=aiS s6
 obtain ⟨us8,rfl,s8⟩:=aiS s7
 obtain ⟨us9,rfl,s9⟩:=aiS s8
 obtain ⟨u10,us10,rfl,s10⟩:=avE s9
 obtain ⟨A,ca,rfl,hl,ps,hA⟩:=aDl s10
 obtain ⟨u11,us11,rfl,s11⟩:=avE s10.drop
 obtain ⟨A2,ca2,rfl,hA2⟩:=aDm s11
 obtain ⟨rfl,s12⟩:=aBr s11.drop
 refine ⟨⟨A,ca,A2,ca2⟩,e,⟨⟨hl,fun hne =>?_⟩,hA2⟩,s12⟩
 cases hp:c.progs with
 | nil =>exact absurd hp hne
 | cons x xs =>
  obtain ⟨a0,_,_,b,o,e1,hb,_⟩:=hA 0 x (by rw [hp]; rfl)
  refine ⟨b,o,e1,hb,fun i p hi =>?_⟩
  obtain ⟨a1,g1,g2,b',o',e2,hb',hc'⟩:=hA i p (by rw [hp]; exact hi)
  rw [e1] at e2
  cases e2
  exact ⟨a1.1,a1.2,hc',g2.1⟩
end
end
section
open Go.RowKit
set_option maxHeartbeats 400000 in
theorem aeS (a b c:Int) (w:World) :
  Calls Tryz.prog 173 #[.int .i64 a,.int .i64 b,.int .i64 c] w fun e w' =>e=.returned (.bool (inB a b c))∧w=w':=by
 unfold inB
 by_cases h:b≤a
 all_goals
  go_enter Tryz.func173,Tryz.ntmps173
  go_wp2
  go_ret
  all_goals (simp [*]<;>omega)
set_option maxHeartbeats 400000 in
theorem aeN (a b c:Int) (w:World) :
  Calls Tryz.prog 183 #[.int .i64 a,.int .i64 b,.int .i64 c] w fun e w' =>e=.returned (.bool (inB a b c))∧w=w':=by
 unfold inB
 by_cases h:b≤a
 all_goals
  go_enter Tryz.func183,Tryz.ntmps183
  go_wp2
  go_ret
  all_goals (simp [*]<;>omega)
set_option maxHeartbeats 1000000 in
theorem afU (c:Cfg) (l:CfgAt) (w:World) :
  Calls Tryz.prog 114 #[acM c l] w fun e w' =>e=.returned (.bool (ag0 c))∧Below w.heap.size w w':=by
 unfold acM ag0
 by_cases hl:c.levels<8
 all_goals
  go_enter Tryz.func114,Tryz.ntmps114
  go_wp2_with (first | (go_at_call 173; refine (aeS _ _ _ _).mono ?_; rintro e w' ⟨rfl,rfl⟩))
  all_goals go_ret
  all_goals simp [*]
  all_goals exact (Below.refl _ _).alloc (Nat.le_refl _) _
set_option maxHeartbeats 1000000 in
theorem akK (c:Cfg) (l:CfgAt) (x:Ins) (w:World) (h1:1≤c.levels) (h2:c.levels≤64) (hp:c.progs.length≤9223372036854775807) :
  Calls Tryz.prog 174 #[acM c l,.agg #[.int .i64 x.op,.int .i64 x.a,.int .i64 x.b]] w fun e w' =>e=.returned (.bool (aju c.levels c.progs.length x))∧Below w.heap.size w w':=by
 unfold acM
 go_enter Tryz.func174,Tryz.ntmps174
 go_wp2_with (first | (go_at_call 173; refine (aeS _ _ _ _).mono ?_; rintro e w' ⟨rfl,rfl⟩))
 all_goals go_ret
 all_goals refine ⟨asM (by unfold aju; simp_all),?_⟩
 all_goals exact ((Below.refl _ _).alloc (Nat.le_refl _) _).alloc (by simp) _
set_option maxHeartbeats 1000000 in
theorem akp (c:Cfg) (l:CfgAt) (x:Ins) (w:World) (h1:1≤c.levels) (h2:c.levels≤64) (hp:c.progs.length≤9223372036854775807) :
  Calls Tryz.prog 184 #[acM c l,.agg #[.int .i64 x.op,.int .i64 x.a,.int .i64 x.b]] w fun e w' =>e=.returned (.bool (aju c.levels c.progs.length x))∧Below w.heap.size w w':=by
 unfold acM
 go_enter Tryz.func184,Tryz.ntmps184
 go_wp2_with (first | (go_at_call 183; refine (aeN _ _ _ _).mono ?_; rintro e w' ⟨rfl,rfl⟩))
 all_goals go_ret
 all_goals refine ⟨asM (by unfold aju; simp_all),?_⟩
 all_goals exact ((Below.refl _ _).alloc (Nat.le_refl _) _).alloc (by simp) _
set_option maxHeartbeats 1000000 in
theorem afQ (c:Cfg) (l:CfgAt) (w:World) :
  Calls Tryz.prog 182 #[acM c l] w fun e w' =>e=.returned (.bool (ag0 c))∧Below w.heap.size w w':=by
 unfold acM ag0
 by_cases hl:c.levels<8
 all_goals
  go_enter Tryz.func182,Tryz.ntmps182
  go_wp2_with (first | (go_at_call 183; refine (aeN _ _ _ _).mono ?_; rintro e w' ⟨rfl,rfl⟩))
  all_goals go_ret
  all_goals simp [*]
  all_goals exact (Below.refl _ _).alloc (Nat.le_refl _) _
theorem afF {lv np:Int} {ps:List (List Ins)} {k:Nat} (hk:k<ps.length) (h:abJ lv np (ps.drop k)=abJ lv np ps) (hl:32<ps[k].length):abJ lv np ps=2:=by
 rw [← h,List.drop_eq_getElem_cons hk]; simp [abJ,hl]
theorem af7 {lv np:Int} {ps:List (List Ins)} {k j:Nat} (hk:k<ps.length) (h:abJ lv np (ps.drop k)=abJ lv np ps) (hl:ps[k].length≤32) (hj:j<ps[k].length) (hb:aju lv np ps[k][j]=false):abJ lv np ps=1:=by
 rw [← h,List.drop_eq_getElem_cons hk]
 have:ps[k].all (aju lv np)=false:=by
  rw [List.all_eq_false]; exact ⟨_,List.getElem_mem hj,by simp [hb]⟩
 simp [abJ,Nat.not_lt.2 hl,this]
theorem afE {lv np:Int} {ps:List (List Ins)} {k:Nat} (hk:k<ps.length) (h:abJ lv np (ps.drop k)=abJ lv np ps) (hl:ps[k].length≤32) (ha:(ps[k].take ps[k].length).all (aju lv np)=true):abJ lv np (ps.drop (k+1))=abJ lv np ps:=by
 rw [← h,List.drop_eq_getElem_cons hk]
 rw [List.take_length] at ha
 simp [abJ,Nat.not_lt.2 hl,ha]
theorem ajJ {α:Type} {f:α→Bool} {l:List α} {j:Nat} (hj:j<l.length) (h:(l.take j).all f=true) (hf:f l[j]=true):(l.take (j+1)).all f=true:=by
 rw [List.take_succ_eq_append_getElem hj,List.all_append,h]; simp [hf]
def aFY (lv np:Int) (ps:List (List Ins)) (k:Nat):Prop:=abJ lv np (ps.drop k)=abJ lv np ps
def aER (lv np:Int) (p:List Ins) (k:Nat):Prop:=(p.take k).all (aju lv np)=true
@[reducible] def ahD (c : Cfg) (l : CfgAt) : Obj := .cells #[.int .i64 c.workers,.int .i64 c.levels,.int .i64 c.classes,.int .i64 c.tasks,.int .i64 c.deque,.int .i64 c.heap,.int .i64 c.batch,.int .i64 c.age,.int .i64 c.patience,.slice l.pa c.progs.length l.pc,.slice l.sa c.subs.length l.sc] 29
set_option maxHeartbeats 2000000 in
theorem ahC (c:Cfg) (l:CfgAt) (w:World) (h1:1≤c.levels) (h2:c.levels≤64) (hc:acR w w.heap.size c l) :
  Calls Tryz.prog 115 #[acM c l] w fun e w' =>e=.returned (.int .i64 (adE c))∧Below w.heap.size w w':=by
 have hlen:=hc.1.1
 by_cases hp:inB (c.progs.length:Int) 1 32=true
 ·have hfin:adE c=abJ c.levels c.progs.length c.progs:=by simp [adE,hp]
  have Hfin:=Lib.hid hfin
  clear hfin
  unfold acM
  go_enter Tryz.func115,Tryz.ntmps115
  go_wp2_with (first | (go_at_call 173; refine (aeS _ _ _ _).mono ?_; rintro e w' ⟨rfl,rfl⟩))
  go_loopw [15] (fun i wr =>∃ k:Nat,k≤c.progs.length∧i=.int .i64 k∧aFY c.levels c.progs.length c.progs k∧Below (w.heap.size+1) (w.alloc (ahD c l)) wr) (fun i _ =>c.progs.length-(intOf i).toNat)
  case atStart =>exact ⟨0,Nat.zero_le _,rfl,rfl,Below.refl _ _⟩
  case round =>
   obtain ⟨k,hk,rfl,hi,hb⟩:=hrel
   have hB:w.heap.size<wr.heap.size:=by have:=hb.size; simp at this; omega
   have hbw:Below w.heap.size w wr:=((Below.refl _ _).alloc (Nat.le_refl _) _).trans (hb.mono (by omega))
   by_cases hlt:k<c.progs.length
   ·obtain ⟨b,o,hpa,hbb,Ai,ci,hcell,hsl⟩:=hc.1.at_ hlt
    have hln:=hsl.len
    obtain ⟨hcs,hfz⟩:=akd hb
    by_cases hlong:32<c.progs[k].length
    ·have hres:=Lib.hid (afF hlt hi hlong)
     obtain ⟨pa,pc,sa,sc⟩:=l
     obtain rfl:pa=some ⟨b,o,none⟩:=hpa
     go_wp2
     go_ret
     exact ⟨acx (by rw [Hfin.out,hres.out]),hbw⟩
    ·obtain ⟨pa,pc,sa,sc⟩:=l
     obtain rfl:pa=some ⟨b,o,none⟩:=hpa
     go_wp2
     obtain ⟨wo,rfl⟩:∃ wo:World,wo=wr:=⟨_,rfl⟩
     clear hcs hfz
     go_loopw [24] (fun i ws =>∃ j:Nat,j≤c.progs[k].length∧i=.int .i64 j∧aER c.levels c.progs.length c.progs[k] j∧Below (w.heap.size+1) (w.alloc (ahD c ⟨some ⟨b,o,none⟩,pc,sa,sc⟩)) ws) (fun i _ =>c.progs[k].length-(intOf i).toNat)
     case atStart =>exact ⟨0,Nat.zero_le _,rfl,by simp [aER],hb⟩
     case round =>
      obtain ⟨j,hj,rfl,hq,hb2⟩:=hrel
      have hB2:w.heap.size<wr.heap.size:=by have:=hb2.size; simp at this; omega
      have hbw2:Below w.heap.size w wr:=((Below.refl _ _).alloc (Nat.le_refl _) _).trans (hb2.mono (by omega))
      by_cases hjt:j<c.progs[k].length
      ·obtain ⟨b2,o2,hpa2,hbb2,hcc⟩:=hsl.at_ hjt
       obtain rfl:Ai=some ⟨b2,o2,none⟩:=hpa2
       obtain ⟨hcs,hfz⟩:=akd hb2
       have c0:w.cell? ⟨b2,o2+j*3,none⟩=some (.int .i64 c.progs[k][j].op):=hcc j hjt 0 _ rfl
       have c1:w.cell? ⟨b2,o2+j*3+1,none⟩=some (.int .i64 c.progs[k][j].a):=hcc j hjt 1 _ rfl
       have c2:w.cell? ⟨b2,o2+j*3+2,none⟩=some (.int .i64 c.progs[k][j].b):=hcc j hjt 2 _ rfl
       by_cases hok:aju c.levels c.progs.length c.progs[k][j]=true
       ·go_wp2_with (first | (go_at_call 174; refine (akK c ⟨some ⟨b,o,none⟩,pc,sa,sc⟩ c.progs[k][j] _ h1 h2 hlen).mono ?_; rintro e w' ⟨rfl,hbv⟩))
        go_roundw
        case rel =>exact ⟨j+1,by omega,by go_num,ajJ hjt hq hok,(hb2.alloc (by omega) _).trans (hbv.mono (by simp; omega))⟩
        case measure =>simp [intOf]; omega
       ·have hok':aju c.levels c.progs.length c.progs[k][j]=false:=by simpa using hok
        clear hok
        have hres:=Lib.hid (af7 hlt hi (by omega) hjt hok')
        go_wp2_with (first | (go_at_call 174; refine (akK c ⟨some ⟨b,o,none⟩,pc,sa,sc⟩ c.progs[k][j] _ h1 h2 hlen).mono ?_; rintro e w' ⟨rfl,hbv⟩))
        go_ret
        exact ⟨acx (by rw [Hfin.out,hres.out]),((Below.refl _ _).alloc (Nat.le_refl _) _).trans (((hb2.alloc (by omega) _).trans (hbv.mono (by simp; omega))).mono (by omega))⟩
      ·obtain ⟨hcs,hfz⟩:=akd hb2
       go_wp2
       go_roundw
       case rel =>exact ⟨k+1,by omega,by go_num,afE hlt hi (by omega) (by
        have e:j=c.progs[k].length:=by omega
        subst e; exact hq),hb2⟩
       case measure =>simp [intOf]; omega
   ·go_wp2
    go_ret
    exact ⟨acx (by
     have hi':abJ c.levels c.progs.length (c.progs.drop k)=abJ c.levels c.progs.length c.progs:=hi
     rw [Hfin.out,← hi',List.drop_eq_nil_of_le (by omega)]; rfl),hbw⟩
 ·have hfin:adE c=2:=by simp [adE,hp]
  have Hfin:=Lib.hid hfin
  clear hfin
  unfold acM
  go_enter Tryz.func115,Tryz.ntmps115
  go_wp2_with (first | (go_at_call 173; refine (aeS _ _ _ _).mono ?_; rintro e w' ⟨rfl,rfl⟩))
  go_ret
  exact ⟨acx Hfin.out.symm,(Below.refl _ _).alloc (Nat.le_refl _) _⟩
theorem agV {lv np:Int} {ss:List Sub} {k:Nat} (hk:k<ss.length) (h:ac0 lv np (ss.drop k)=ac0 lv np ss) {e:Int} (he:amK lv np ss[k]=e) (hne:e≠0):ac0 lv np ss=e:=by
 subst he
 rw [← h,List.drop_eq_getElem_cons hk]; simp [ac0,hne]
theorem af0 {lv np:Int} {ss:List Sub} {k:Nat} (hk:k<ss.length) (h:ac0 lv np (ss.drop k)=ac0 lv np ss) (he:amK lv np ss[k]=0):ac0 lv np (ss.drop (k+1))=ac0 lv np ss:=by
 rw [← h,List.drop_eq_getElem_cons hk]; simp [ac0,he]
def aFX (lv np:Int) (ss:List Sub) (k:Nat):Prop:=ac0 lv np (ss.drop k)=ac0 lv np ss
set_option maxHeartbeats 2000000 in
theorem asj (c:Cfg) (l:CfgAt) (w:World) (h1:1≤c.levels) (h2:c.levels≤64) (hc:acR w w.heap.size c l) :
  Calls Tryz.prog 116 #[acM c l] w fun e w' =>e=.returned (.int .i64 (aer c))∧Below w.heap.size w w':=by
 have hlen:=hc.1.1
 have hlen2:=hc.2.1
 by_cases hp:64<c.subs.length
 ·have hfin:aer c=2:=by simp [aer,hp]
  have Hfin:=Lib.hid hfin
  clear hfin
  unfold acM
  go_enter Tryz.func116,Tryz.ntmps116
  go_wp2
  go_ret
  exact ⟨acx Hfin.out.symm,(Below.refl _ _).alloc (Nat.le_refl _) _⟩
 ·have hfin:aer c=ac0 c.levels c.progs.length c.subs:=by simp [aer,hp]
  have Hfin:=Lib.hid hfin
  clear hfin
  unfold acM
  go_enter Tryz.func116,Tryz.ntmps116
  go_wp2
  go_loopw [12] (fun i wr =>∃ k:Nat,k≤c.subs.length∧i=.int .i64 k∧aFX c.levels c.progs.length c.subs k∧Below (w.heap.size+1) (w.alloc (ahD c l)) wr) (fun i _ =>c.subs.length-(intOf i).toNat)
  case atStart =>exact ⟨0,Nat.zero_le _,rfl,rfl,Below.refl _ _⟩
  case round =>
   obtain ⟨k,hk,rfl,hi,hb⟩:=hrel
   have hB:w.heap.size<wr.heap.size:=by have:=hb.size; simp at this; omega
   have hbw:Below w.heap.size w wr:=((Below.refl _ _).alloc (Nat.le_refl _) _).trans (hb.mono (by omega))
   obtain ⟨hcs,hfz⟩:=akd hb
   by_cases hlt:k<c.subs.length
   ·obtain ⟨b,o,hpa,hbb,hcc⟩:=hc.2.at_ hlt
    obtain ⟨pa,pc,sa,sc⟩:=l
    obtain rfl:sa=some ⟨b,o,none⟩:=hpa
    have c0:w.cell? ⟨b,o+k*3,none⟩=some (.int .i64 c.subs[k].prog):=hcc k hlt 0 _ rfl
    have c1:w.cell? ⟨b,o+k*3+1,none⟩=some (.int .i64 c.subs[k].level):=hcc k hlt 1 _ rfl
    have c2:w.cell? ⟨b,o+k*3+2,none⟩=some (.int .i64 c.subs[k].deadline):=hcc k hlt 2 _ rfl
    have hse:amK c.levels c.progs.length c.subs[k]=if !inB c.subs[k].prog 0 (c.progs.length-1) then 3 else if !inB c.subs[k].level 0 (c.levels-1) || !inB c.subs[k].deadline 0 16777215 then 1 else 0:=rfl
    have Hse:=Lib.hid hse
    clear hse
    have bad:=fun e he hne =>Lib.hid (agV (e:=e) hlt hi he hne)
    by_cases g1:inB c.subs[k].prog 0 (c.progs.length-1)=true
    ·by_cases g2:inB c.subs[k].level 0 (c.levels-1)=true
     ·by_cases g3:inB c.subs[k].deadline 0 16777215=true
      ·go_wp2_with (first | (go_at_call 173; refine (aeS _ _ _ _).mono ?_; rintro e w' ⟨rfl,rfl⟩))
       go_roundw
       case rel =>exact ⟨k+1,by omega,by go_num,af0 hlt hi (by rw [Hse.out]; simp [g1,g2,g3]),hb.alloc (by omega) _⟩
       case measure =>simp [intOf]; omega
      ·go_wp2_with (first | (go_at_call 173; refine (aeS _ _ _ _).mono ?_; rintro e w' ⟨rfl,rfl⟩))
       go_ret
       exact ⟨acx (by rw [Hfin.out,(bad 1 (by rw [Hse.out]; simp [g1,g2,g3]) (by omega)).out]),hbw.alloc (by omega) _⟩
     ·go_wp2_with (first | (go_at_call 173; refine (aeS _ _ _ _).mono ?_; rintro e w' ⟨rfl,rfl⟩))
      go_ret
      exact ⟨acx (by rw [Hfin.out,(bad 1 (by rw [Hse.out]; simp [g1,g2]) (by omega)).out]),hbw.alloc (by omega) _⟩
    ·go_wp2_with (first | (go_at_call 173; refine (aeS _ _ _ _).mono ?_; rintro e w' ⟨rfl,rfl⟩))
     go_ret
     exact ⟨acx (by rw [Hfin.out,(bad 3 (by rw [Hse.out]; simp [g1]) (by omega)).out]),hbw.alloc (by omega) _⟩
   ·go_wp2
    go_ret
    exact ⟨acx (by
     have hi':ac0 c.levels c.progs.length (c.subs.drop k)=ac0 c.levels c.progs.length c.subs:=hi
     rw [Hfin.out,← hi',List.drop_eq_nil_of_le (by omega)]; rfl),hbw⟩
set_option maxHeartbeats 2000000 in
theorem aqE (c:Cfg) (l:CfgAt) (w:World) (hc:acR w w.heap.size c l) :
  Calls Tryz.prog 72 #[acM c l] w fun e w' =>e=.returned (.int .i64 (abB c))∧Below w.heap.size w w':=by
 by_cases hn:ag0 c=true
 ·obtain ⟨_,_,h1,h2,_⟩:=aiD hn
  by_cases hp:adE c=0
  ·have hfin:abB c=aer c:=by simp [abB,hn,hp]
   have Hfin:=Lib.hid hfin
   clear hfin
   unfold acM
   go_enter Tryz.func72,Tryz.ntmps72
   go_wp2_with fail
   refine (afU c l _).mono ?_; rintro e w1 ⟨rfl,hb1⟩
   obtain ⟨hc1,hf1⟩:=akd hb1
   have hw1:=afh hb1
   go_wp2_with fail
   refine (ahC c l _ h1 h2 (hc.up hw1)).mono ?_; rintro e w2 ⟨rfl,hb2⟩
   have hw2:=agd hw1 hb2
   obtain ⟨hc2,hf2⟩:=akd (agd hb1 hb2)
   clear hc1 hf1
   go_wp2_with fail
   refine (asj c l _ h1 h2 (hc.up hw2)).mono ?_; rintro e w3 ⟨rfl,hb3⟩
   go_wp2_with fail
   go_ret
   exact ⟨acx Hfin.out.symm,agd hw2 hb3⟩
  ·have hfin:abB c=adE c:=by simp [abB,hn,hp]
   have Hfin:=Lib.hid hfin
   have hp':(adE c == 0)=false:=by simpa using hp
   clear hfin hp
   unfold acM
   go_enter Tryz.func72,Tryz.ntmps72
   go_wp2_with fail
   refine (afU c l _).mono ?_; rintro e w1 ⟨rfl,hb1⟩
   obtain ⟨hc1,hf1⟩:=akd hb1
   have hw1:=afh hb1
   go_wp2_with fail
   refine (ahC c l _ h1 h2 (hc.up hw1)).mono ?_; rintro e w2 ⟨rfl,hb2⟩
   have hw2:=agd hw1 hb2
   obtain ⟨hc2,hf2⟩:=akd (agd hb1 hb2)
   clear hc1 hf1
   go_wp2_with fail
   go_ret
   exact ⟨acx Hfin.out.symm,hw2⟩
 ·have hfin:abB c=1:=by simp [abB,hn]
  have Hfin:=Lib.hid hfin
  clear hfin
  unfold acM
  go_enter Tryz.func72,Tryz.ntmps72
  go_wp2_with fail
  refine (afU c l _).mono ?_; rintro e w1 ⟨rfl,hb1⟩
  have hw1:=afh hb1
  go_wp2_with fail
  go_ret
  exact ⟨acx Hfin.out.symm,hw1⟩
end
section
open Go Go.RowKit
variable [Tb]
theorem aDp {S:Shp} {B:Nat} {w:World} {L:List aak} {x:Bool} (s:Sat B w L):Sat B w (pcS S.kt (.b x) (.bool x)::L):=abP s fun _ =>⟨0,rfl⟩
end
section
open Go.RowKit
set_option maxHeartbeats 2000000 in
theorem apJ (c:Cfg) (l:CfgAt) (w:World) (hc:acR w w.heap.size c l) :
  Calls Tryz.prog 126 #[acM c l] w fun e w' =>e=.returned (.int .i64 (abB c))∧Below w.heap.size w w':=by
 have hlen:=hc.1.1
 have hlen2:=hc.2.1
 by_cases hn:ag0 c=true
 ·obtain ⟨_,_,h1,h2,_⟩:=aiD hn
  by_cases hp:inB (c.progs.length:Int) 1 32=true
  ·have hpa0:adE c=abJ c.levels c.progs.length c.progs:=by simp [adE,hp]
   have hfin:abB c=if abJ c.levels c.progs.length c.progs≠0 then abJ c.levels c.progs.length c.progs else aer c:=by simp [abB,hn,hpa0]
   have Hfin:=Lib.hid hfin
   clear hfin hpa0
   unfold acM
   go_enter Tryz.func126,Tryz.ntmps126
   go_wp2_with fail
   refine (afQ c l _).mono ?_; rintro e w1 ⟨rfl,hb1⟩
   obtain ⟨hc1,hf1⟩:=akd hb1
   have hw1:=afh hb1
   go_wp2_with fail
   refine (aeN _ _ _ _).mono ?_; rintro e w2 ⟨rfl,rfl⟩
   go_wp2_with fail
   clear hc1 hf1
   have hb1':Below (w.heap.size+1) (w.alloc (ahD c l)) w1:=by simpa using hb1
   clear hb1
   go_loopw [3] (fun i wr =>∃ k:Nat,k≤c.progs.length∧i=.int .i64 k∧aFY c.levels c.progs.length c.progs k∧Below (w.heap.size+1) (w.alloc (ahD c l)) wr) (fun i _ =>c.progs.length-(intOf i).toNat)
   case atStart =>exact ⟨0,Nat.zero_le _,rfl,rfl,hb1'⟩
   case round =>
    clear hb1' hw1
    obtain ⟨k,hk,rfl,hi,hb⟩:=hrel
    have hB:w.heap.size<wr.heap.size:=by have:=hb.size; simp at this; omega
    have hbw:Below w.heap.size w wr:=((Below.refl _ _).alloc (Nat.le_refl _) _).trans (hb.mono (by omega))
    obtain ⟨hcs,hfz⟩:=akd hb
    by_cases hlt:k<c.progs.length
    ·obtain ⟨b,o,hpa,hbb,Ai,ci,hcell,hsl⟩:=hc.1.at_ hlt
     have hln:=hsl.len
     obtain ⟨pa,pc,sa,sc⟩:=l
     obtain rfl:pa=some ⟨b,o,none⟩:=hpa
     by_cases hlong:32<c.progs[k].length
     ·have hres:=Lib.hid (afF hlt hi hlong)
      go_wp2
      go_ret
      exact ⟨acx (by rw [Hfin.out,hres.out]; simp),hbw⟩
     ·go_wp2
      obtain ⟨wo,rfl⟩:∃ wo:World,wo=wr:=⟨_,rfl⟩
      clear hcs hfz
      go_loopw [4] (fun i ws =>∃ j:Nat,j≤c.progs[k].length∧i=.int .i64 j∧aER c.levels c.progs.length c.progs[k] j∧Below (w.heap.size+1) (w.alloc (ahD c ⟨some ⟨b,o,none⟩,pc,sa,sc⟩)) ws) (fun i _ =>c.progs[k].length-(intOf i).toNat)
      case atStart =>exact ⟨0,Nat.zero_le _,rfl,by simp [aER],hb⟩
      case round =>
       obtain ⟨j,hj,rfl,hq,hb2⟩:=hrel
       have hB2:w.heap.size<wr.heap.size:=by have:=hb2.size; simp at this; omega
       obtain ⟨hcs,hfz⟩:=akd hb2
       by_cases hjt:j<c.progs[k].length
       ·obtain ⟨b2,o2,hpa2,hbb2,hcc⟩:=hsl.at_ hjt
        obtain rfl:Ai=some ⟨b2,o2,none⟩:=hpa2
        have c0:w.cell? ⟨b2,o2+j*3,none⟩=some (.int .i64 c.progs[k][j].op):=hcc j hjt 0 _ rfl
        have c1:w.cell? ⟨b2,o2+j*3+1,none⟩=some (.int .i64 c.progs[k][j].a):=hcc j hjt 1 _ rfl
        have c2:w.cell? ⟨b2,o2+j*3+2,none⟩=some (.int .i64 c.progs[k][j].b):=hcc j hjt 2 _ rfl
        by_cases hok:aju c.levels c.progs.length c.progs[k][j]=true
        ·have hok2:(!aju c.levels c.progs.length c.progs[k][j])=false:=by simp [hok]
         go_wp2
         clear hcs hfz
         have hcx:=Above.cells (B:=w.heap.size+1) (W:=w.alloc (ahD c ⟨some ⟨b,o,none⟩,pc,sa,sc⟩))
         refine ahb (w.heap.size+1) (w.alloc (ahD c ⟨some ⟨b,o,none⟩,pc,sa,sc⟩)) (by kernel_rfl) (by kernel_rfl) hb2 ?_
         repeat (go_big_quiet_step ((go_at_call 184; exact axX (by simp) (akp c ⟨some ⟨b,o,none⟩,pc,sa,sc⟩ c.progs[k][j] _ h1 h2 hlen))))
         refine wpQuiet_nil ?_
         intro wq hbq
         have hbq':Below w.heap.size w wq:=((Below.refl _ _).alloc (Nat.le_refl _) _).trans (hbq.mono (by omega))
         clear hcx
         go_wp2
         go_roundw
         case rel =>exact ⟨j+1,by omega,by go_num,ajJ hjt hq hok,hbq⟩
         case measure =>simp [intOf]; omega
        ·have hok':aju c.levels c.progs.length c.progs[k][j]=false:=by simpa using hok
         clear hok
         have hres:=Lib.hid (af7 hlt hi (by omega) hjt hok')
         go_wp2
         clear hcs hfz
         have hcx:=Above.cells (B:=w.heap.size+1) (W:=w.alloc (ahD c ⟨some ⟨b,o,none⟩,pc,sa,sc⟩))
         refine ahb (w.heap.size+1) (w.alloc (ahD c ⟨some ⟨b,o,none⟩,pc,sa,sc⟩)) (by kernel_rfl) (by kernel_rfl) hb2 ?_
         repeat (go_big_quiet_step ((go_at_call 184; exact axX (by simp) (akp c ⟨some ⟨b,o,none⟩,pc,sa,sc⟩ c.progs[k][j] _ h1 h2 hlen))))
         refine wpQuiet_nil ?_
         intro wq hbq
         have hbq':Below w.heap.size w wq:=((Below.refl _ _).alloc (Nat.le_refl _) _).trans (hbq.mono (by omega))
         clear hcx
         go_wp2
         go_ret
         exact ⟨acx (by rw [Hfin.out,hres.out]; simp),hbq'⟩
       ·go_wp2
        go_roundw
        case rel =>exact ⟨k+1,by omega,by go_num,afE hlt hi (by omega) (by
         have e:j=c.progs[k].length:=by omega
         subst e; exact hq),hb2⟩
        case measure =>simp [intOf]; omega
    ·have hi':abJ c.levels c.progs.length (c.progs.drop k)=abJ c.levels c.progs.length c.progs:=hi
     have hpz:abJ c.levels c.progs.length c.progs=0:=by rw [← hi',List.drop_eq_nil_of_le (by omega)]; rfl
     have Hf2:Hid (abB c=aer c):=by rw [Hfin.out,hpz]; exact if_neg (by simp)
     clear hi hi' hpz
     by_cases hp:64<c.subs.length
     ·have hfin:aer c=2:=by simp [aer,hp]
      have Hf3:=Lib.hid hfin
      clear hfin
      go_wp2
      go_ret
      exact ⟨acx (by rw [Hf2.out,Hf3.out]),hbw⟩
     ·have hfin:aer c=ac0 c.levels c.progs.length c.subs:=by simp [aer,hp]
      have Hf3:=Lib.hid hfin
      clear hfin
      go_wp2
      obtain ⟨wo,rfl⟩:∃ wo:World,wo=wr:=⟨_,rfl⟩
      clear hcs hfz
      go_loopw [5] (fun i wr =>∃ k:Nat,k≤c.subs.length∧i=.int .i64 k∧aFX c.levels c.progs.length c.subs k∧Below (w.heap.size+1) (w.alloc (ahD c l)) wr) (fun i _ =>c.subs.length-(intOf i).toNat)
      case atStart =>exact ⟨0,Nat.zero_le _,rfl,rfl,hb⟩
      case round =>
       clear hb hB hbw
       obtain ⟨m,hk,rfl,hi,hb⟩:=hrel
       have hB:w.heap.size<wr.heap.size:=by have:=hb.size; simp at this; omega
       have hbw:Below w.heap.size w wr:=((Below.refl _ _).alloc (Nat.le_refl _) _).trans (hb.mono (by omega))
       obtain ⟨hcs,hfz⟩:=akd hb
       by_cases hlt:m<c.subs.length
       ·obtain ⟨b,o,hpa,hbb,hcc⟩:=hc.2.at_ hlt
        obtain ⟨pa,pc,sa,sc⟩:=l
        obtain rfl:sa=some ⟨b,o,none⟩:=hpa
        have c0:w.cell? ⟨b,o+m*3,none⟩=some (.int .i64 c.subs[m].prog):=hcc m hlt 0 _ rfl
        have c1:w.cell? ⟨b,o+m*3+1,none⟩=some (.int .i64 c.subs[m].level):=hcc m hlt 1 _ rfl
        have c2:w.cell? ⟨b,o+m*3+2,none⟩=some (.int .i64 c.subs[m].deadline):=hcc m hlt 2 _ rfl
        have hse:amK c.levels c.progs.length c.subs[m]=if !inB c.subs[m].prog 0 (c.progs.length-1) then 3 else if !inB c.subs[m].level 0 (c.levels-1) || !inB c.subs[m].deadline 0 16777215 then 1 else 0:=rfl
        have Hse:=Lib.hid hse
        clear hse
        have bad:=fun e he hne =>Lib.hid (agV (e:=e) hlt hi he hne)
        by_cases g1:inB c.subs[m].prog 0 (c.progs.length-1)=true
        ·by_cases g2:inB c.subs[m].level 0 (c.levels-1)=true
         ·by_cases g3:inB c.subs[m].deadline 0 16777215=true
          ·go_wp2_with (first | (go_at_call 183; refine (aeN _ _ _ _).mono ?_; rintro e w' ⟨rfl,rfl⟩))
           go_roundw
           case rel =>exact ⟨m+1,by omega,by go_num,af0 hlt hi (by rw [Hse.out]; simp [g1,g2,g3]),hb.alloc (by omega) _⟩
           case measure =>simp [intOf]; omega
          ·go_wp2_with (first | (go_at_call 183; refine (aeN _ _ _ _).mono ?_; rintro e w' ⟨rfl,rfl⟩))
           go_ret
           exact ⟨acx (by rw [Hf2.out,Hf3.out,(bad 1 (by rw [Hse.out]; simp [g1,g2,g3]) (by omega)).out]),hbw.alloc (by omega) _⟩
         ·go_wp2_with (first | (go_at_call 183; refine (aeN _ _ _ _).mono ?_; rintro e w' ⟨rfl,rfl⟩))
          go_ret
          exact ⟨acx (by rw [Hf2.out,Hf3.out,(bad 1 (by rw [Hse.out]; simp [g1,g2]) (by omega)).out]),hbw.alloc (by omega) _⟩
        ·go_wp2_with (first | (go_at_call 183; refine (aeN _ _ _ _).mono ?_; rintro e w' ⟨rfl,rfl⟩))
         go_ret
         exact ⟨acx (by rw [Hf2.out,Hf3.out,(bad 3 (by rw [Hse.out]; simp [g1]) (by omega)).out]),hbw.alloc (by omega) _⟩
       ·go_wp2
        go_ret
        exact ⟨acx (by
         have hi':ac0 c.levels c.progs.length (c.subs.drop m)=ac0 c.levels c.progs.length c.subs:=hi
         rw [Hf2.out,Hf3.out,← hi',List.drop_eq_nil_of_le (by omega)]; rfl),hbw⟩
  ·have hfin:abB c=2:=by simp [abB,hn,adE,hp]
   have Hfin:=Lib.hid hfin
   clear hfin
   unfold acM
   go_enter Tryz.func126,Tryz.ntmps126
   go_wp2_with fail
   refine (afQ c l _).mono ?_; rintro e w1 ⟨rfl,hb1⟩
   obtain ⟨hc1,hf1⟩:=akd hb1
   have hw1:=afh hb1
   go_wp2_with fail
   refine (aeN _ _ _ _).mono ?_; rintro e w2 ⟨rfl,rfl⟩
   go_wp2_with fail
   go_ret
   exact ⟨acx Hfin.out.symm,hw1⟩
 ·have hfin:abB c=1:=by simp [abB,hn]
  have Hfin:=Lib.hid hfin
  clear hfin
  unfold acM
  go_enter Tryz.func126,Tryz.ntmps126
  go_wp2_with fail
  refine (afQ c l _).mono ?_; rintro e w1 ⟨rfl,hb1⟩
  have hw1:=afh hb1
  go_wp2_with fail
  go_ret
  exact ⟨acx Hfin.out.symm,hw1⟩
end
section
open Go Go.RowKit
variable [Tb]
end
section
open Go
def ade {α:Type} (o:Option α) (P:α→Prop):Prop:=∃ x,o=some x∧P x
section
variable {α β:Type} {o:Option α} {P Q:α→Prop} {x:α}
theorem ade.some_ (h:P x):ade (some x) P:=⟨x,rfl,h⟩
theorem ade.bind {f:α→Option β} {Q:β→Prop} (h:ade o P) (k:∀ x,P x→ade (f x) Q):ade (o.bind f) Q:=by
 obtain ⟨x,rfl,hx⟩:=h
 exact k x hx
theorem ade.ite {c:Prop} [Decidable c] {a b:Option α} (h1:c→ade a P) (h2:¬ c→ade b P):ade (if c then a else b) P:=by
 by_cases h:c
 ·rw [if_pos h]; exact h1 h
 ·rw [if_neg h]; exact h2 h
theorem ade.guard {c:Prop} [Decidable c] {a b:Option α} (h:c) (k:c→ade a P):ade (if c then a else b) P:=by rw [if_pos h]; exact k h
theorem ade.mono (h:ade o P) (k:∀ x,P x→Q x):ade o Q:=by
 obtain ⟨x,e,hx⟩:=h
 exact ⟨x,e,k x hx⟩
end
def Rg (x:Int):Prop := -9223372036854775808≤x∧x≤9223372036854775807
theorem acH {x:Int} (h:Rg x):wi x=x:=w64 h.1 h.2
theorem aam {x:Int} (h:-1000000000000≤x∧x≤1000000000000):Rg x:=by unfold Rg; omega
theorem avi {a b:Int} (h1:1≤b) (h2:0≤a):0≤Int.tmod a b∧Int.tmod a b<b:=⟨Int.tmod_nonneg b h2,Int.tmod_lt_of_pos a (by omega)⟩
theorem agz {σ β:Type} {F:(σ→Option β)→σ→Option β} (I:σ→Prop) (μ:σ→Nat) {P:β→Prop} (step:∀ self x,I x→(∀ y,I y→μ y<μ x→ade (self y) P)→ade (F self x) P):∀ k x,I x→μ x<k→ade (lpF F k x) P
 | 0,x,_,h =>by omega
 | k+1,x,hx,h =>step (lpF F k) x hx fun y hy hlt =>agz I μ step k y hy (by omega)
theorem au2 {α:Type} {d:α} {xs:List α} {i:Int} (h:0≤i∧i<(xs.length:Int)):atL d xs i∈xs:=List.mem_of_getElem? (aej h)
theorem au0 {α β:Type} {G:Prop} [d:Decidable G] (A:Option α) (f:α→Option β):(A.bind fun r =>if G then f r else none)=if G then A.bind f else none:=by
 by_cases h:G
 ·simp only [if_pos h]
 ·simp only [if_neg h]; cases A<;>rfl
end
section
open Go Go.RowKit
set_option maxRecDepth 100000
variable [Tb]
abbrev ws7 (xs:List RecV) (i:Int):List RecV:=xs.set i.toNat (abH xs i)
noncomputable def ab6 (r:CodV) (k:Int):Option ((Int×Unit)×(CodV×Unit)) :=
 if r.at_<((r.inn.length:Nat):Int) then
  if 0≤r.at_∧r.at_<((r.inn.length:Nat):Int) then
   if k≠0 then
   some (((Int.tmod (wi (adm r.inn r.at_)) k),()),(({ r with at_:=wi (r.at_+1) }:CodV),()))
   else none
  else none
 else
 some ((0,()),(({ r with at_:=wi (r.at_+1) }:CodV),()))
noncomputable abbrev ane:Con SR1:=⟨63,[.ref 19,.sh sI_],[.sh sI_],fun x =>ab6 x.1 x.2.1⟩
theorem arx:CO Tryz.prog ane:=abc abb Tryz.func63 [] trivial [] trivial (fun _ =>[]) [] fun x =>by kernel_rfl
noncomputable def akZ (b:List Int):Option ((Cfg×Unit)×(Unit)) :=
 (ab6 (⟨b,[],0,false⟩:CodV) 4).bind fun r1 =>
 (ab6 r1.2.1 4).bind fun r2 =>
 (ab6 r2.2.1 (if wi (1+r2.1.1)<3 then wi (1+r2.1.1) else 3)).bind fun r3 =>
 (ab6 r3.2.1 12).bind fun r4 =>
 (ab6 r4.2.1 4).bind fun r5 =>
 (ab6 r5.2.1 4).bind fun r6 =>
 (ab6 r6.2.1 (wi (1+r5.1.1))).bind fun r7 =>
 (ab6 r7.2.1 6).bind fun r8 =>
 (ab6 r8.2.1 8).bind fun r9 =>
 (ab6 r9.2.1 4).bind fun r10 =>
 (lpF (σ:=Int×CodV×Cfg×Unit) (β:=Int×CodV×Cfg×Unit) (fun self13 x11 =>
  if x11.1<(wi (1+r10.1.1)) then
   (ab6 x11.2.1 6).bind fun r14 =>
   (lpF (σ:=List Ins×Int×CodV×Unit) (β:=List Ins×Int×CodV×Unit) (fun self17 x15 =>
   if 0<x15.2.1 then
   (ab6 x15.2.2.1 3).bind fun r18 =>
   if r18.1.1=0 then
   (ab6 r18.2.1 4).bind fun r19 =>
   if (((x15.1.length+([(⟨r18.1.1,wi (1+r19.1.1),0⟩:Ins)]:List Ins).length:Nat)):Int)<1000000000000 then
   self17 (x15.1++([(⟨r18.1.1,wi (1+r19.1.1),0⟩:Ins)]),wi (x15.2.1-1),r19.2.1,())
   else none
   else
   if r18.1.1=1 then
   (ab6 r18.2.1 (wi (1+r10.1.1))).bind fun r20 =>
   (ab6 r20.2.1 x11.2.2.1.levels).bind fun r21 =>
   if (((x15.1.length+([(⟨r18.1.1,r20.1.1,r21.1.1⟩:Ins)]:List Ins).length:Nat)):Int)<1000000000000 then
   self17 (x15.1++([(⟨r18.1.1,r20.1.1,r21.1.1⟩:Ins)]),wi (x15.2.1-1),r21.2.1,())
   else none
   else
   (ab6 r18.2.1 4).bind fun r22 =>
   if (((x15.1.length+([(⟨r18.1.1,r22.1.1,0⟩:Ins)]:List Ins).length:Nat)):Int)<1000000000000 then
   self17 (x15.1++([(⟨r18.1.1,r22.1.1,0⟩:Ins)]),wi (x15.2.1-1),r22.2.1,())
   else none
   else
   some (x15.1,x15.2.1,x15.2.2.1,())
   ) 18446744073709551616 ([],r14.1.1,r14.2.1,())).bind fun z16 =>
   if (((x11.2.2.1.progs.length+([z16.1]:List (List Ins)).length:Nat)):Int)<100000000000 then
   self13 (wi (x11.1+1),z16.2.2.1,({ x11.2.2.1 with progs:=x11.2.2.1.progs++([z16.1]) }:Cfg),())
   else none
  else
  some (x11.1,x11.2.1,x11.2.2.1,())
 ) 18446744073709551616 (0,r10.2.1,(⟨wi (1+r1.1.1),wi (1+r2.1.1),wi (1+r3.1.1),wi (1+r4.1.1),wi (1+r5.1.1),wi (1+r6.1.1),wi (1+r7.1.1),r8.1.1,wi (1+r9.1.1),[],[]⟩:Cfg),())).bind fun z12 =>
 (ab6 z12.2.1 6).bind fun r23 =>
 (lpF (σ:=Int×CodV×Cfg×Unit) (β:=Int×CodV×Cfg×Unit) (fun self26 x24 =>
  if 0<x24.1 then
   (ab6 x24.2.1 (wi (1+r10.1.1))).bind fun r27 =>
   (ab6 r27.2.1 x24.2.2.1.levels).bind fun r28 =>
   (ab6 r28.2.1 16).bind fun r29 =>
   if (((x24.2.2.1.subs.length+([(⟨r27.1.1,r28.1.1,r29.1.1⟩:Sub)]:List Sub).length:Nat)):Int)<1000000000000 then
   self26 (wi (x24.1-1),r29.2.1,({ x24.2.2.1 with subs:=x24.2.2.1.subs++([(⟨r27.1.1,r28.1.1,r29.1.1⟩:Sub)]) }:Cfg),())
   else none
  else
  some (x24.1,x24.2.1,x24.2.2.1,())
 ) 18446744073709551616 (r23.1.1,r23.2.1,z12.2.2.1,())).bind fun z25 =>
 some ((z25.2.2.1,()),())
noncomputable abbrev anf:Con SR1:=⟨23,[.sh (.ro 17)],[.val 13],fun x =>akZ x.1⟩
theorem ary:CO Tryz.prog anf:=abc abb Tryz.func23 [ane] ⟨arx,trivial⟩ [] trivial (fun _ =>[]) [(12,.loop [.rg 6 sI_,.rg 3 (.own 19),.rg 4 (.own 20)] 18446744073709551616 0),(16,.loop [.rg 7 (.row 3),.rg 8 sI_,.rg 3 (.own 19)] 18446744073709551616 2),(29,.loop [.rg 10 sI_,.rg 3 (.own 19),.rg 4 (.own 20)] 18446744073709551616 5)] fun x =>by kernel_rfl
noncomputable def alV (b:List Int):Option ((Cfg×Unit)×(Unit)) :=
 (akZ b).bind fun r1 =>
 some ((r1.1.1,()),())
noncomputable abbrev alU:Con SR1:=⟨6,[.sh (.ro 17)],[.val 13],fun x =>alV x.1⟩
theorem ans:CO Tryz.prog alU:=abc abb Tryz.func6 [anf] ⟨ary,trivial⟩ [] trivial (fun _ =>[]) [] fun x =>by kernel_rfl
noncomputable def atg (b:List Int) (l:List (List Int)):Option ((Bool×Unit)×(Unit)) :=
 (lpF (σ:=Int×Unit) (β:=(Int×Unit)⊕((Bool×Unit)×(Unit))) (fun self3 x1 =>
  if x1.1<((l.length:Nat):Int) then
   if 0≤x1.1∧x1.1<((l.length:Nat):Int) then
   if 400<(((atL [] l x1.1).length:Nat):Int) then
   Option.map Sum.inr (
   some ((false,()),())
   )
   else
   self3 (wi (x1.1+1),())
   else none
  else
  some (Sum.inl (x1.1,()))
 ) 18446744073709551616 (0,())).bind fun z2 =>match z2 with
 | .inr o4 =>some o4
 | .inl z2 =>
 some ((decide (((b.length:Nat):Int)≤400),()),())
noncomputable abbrev atf:Con SR1:=⟨5,[.sh (.ro 17),.sh (.rr 1)],[.sh .b],fun x =>atg x.1 x.2.1⟩
theorem awY:CO Tryz.prog atf:=abc abb Tryz.func5 [] trivial [] trivial (fun _ =>[]) [(2,.loopR [.rg 5 sI_] 18446744073709551616 0)] fun x =>by kernel_rfl
end
end Go.Proofs.YtjjbdbbmdhncjaaGreat
