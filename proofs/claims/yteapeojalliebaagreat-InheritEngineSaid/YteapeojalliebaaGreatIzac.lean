/- Evaluation by itself,5: reading. No program occurs here. Evaluation by itself,6: loads,stores,memory of its own. No program occurs here. Evaluation by itself: what lies open is put together again. No program occurs here. Evaluation by itself: rows written,elements pointed at. No program occurs here. Evaluation by itself: aggregates,literal slices,elements,interfaces. No program occurs here. -/
import Derived.Test.YteapeojalliebaaGreatIzab
set_option linter.all false
namespace Go.Proofs.YteapeojalliebaaGreat
section
open Go Go.RowKit
structure Nx (K:KT) where
 ρ:Env
 n:Nat
 H:KT.H K
 v:V
def tl (K:KT) (Z:KT.H K) (F:aad) (ρ:Env):List aad:=dH K ρ Z++[F]
theorem ada {K:KT} {Z:KT.H K} {F:aad} {n:Nat} (h:agi Z≤n) {ρ ρ':Env} (ha:aaA n ρ ρ'):tl K Z F ρ=tl K Z F ρ':=by unfold tl; rw [aca ha Z h]
abbrev dS (K:KT) (ρ:Env) (Z H:KT.H K) (F:aad):List aad:=dH K ρ H++tl K Z F ρ
def aeZ (K:KT) (P:Program) (nt B:Nat) (W:World) (o:Oper) (R:aa3) (n:Nat) (Z H:KT.H K) (nx:Nat→KT.H K→V→Prop):Prop :=
 ∀ F ρ a w,Sta nt B W (dR ρ R) (dS K ρ Z H F) a w→ai7 P (fun (x:Nx K) w' =>(aaA n ρ x.ρ∧n≤x.n∧dR x.ρ R=dR ρ R∧nx x.n x.H x.v)∧Cls B W (dS K x.ρ Z x.H F) w') (fun x =>aav x.ρ x.v) ((execOp a.eval o).run P w)
section
variable {K:KT} {r:Option Nat} {P:Program} {ops:Array Oper} {Q:Exit→Act→World→Prop} {nt n B:Nat} {W:World} {R:aa3} {Z H:KT.H K} {ρ:Env} {o:Oper} {rest:List Oper} {nx:Nat→KT.H K→V→Prop} {F:aad}
theorem aF1 (h:aeZ K P nt B W o R n Z H nx) (hd:aGg nt o.dst=true) (hg:ak6 ops (dR ρ R) o.guard true) (k:∀ ρ' n' H' v,aaA n ρ ρ'→n≤n'→nx n' H' v→RT r P ops Q nt B W rest (dR ρ' (as2 R o.dst v)) (dS K ρ' Z H' F)):RT r P ops Q nt B W (o::rest) (dR ρ R) (dS K ρ Z H F):=fun a w s =>by
 unfold wpListIn
 rw [if_pos (hg.spec s.regs)]
 refine aum (h F ρ a w s) fun x w' ⟨⟨ha,hn,hR,hx⟩,hw'⟩ =>?_
 have s1:Regs nt a (dR x.ρ R):=hR▸s.regs
 exact k x.ρ x.n x.H x.v ha hn hx _ _ (hw'.st (agm hd a s1))
def aA0 (H:KT.H K) (id:Nat):Option Nat:=match get H id with
 | some (.row _ xs) =>some xs.length
 | some (.ro _ xs) =>some xs.length
 | some (.rr _ xs) =>some xs.length
 | some (.hole _ xs _ _ _) =>some xs.length
 | some (.gap _ xs _ _) =>some xs.length
 | _ =>none
theorem ajl {H:KT.H K} {id m:Nat} (h:aA0 H id=some m) {w:World} {X:List aad} (s:Sat B w (dH K ρ H++X)):(ρ.s id).n=m:=by
 unfold aA0 at h
 split at h
 ·rename_i hg
  cases h
  obtain ⟨hh,Hh,k1,k2,a,e,⟨h1',h2⟩,hL⟩:=s.imp (aaQ (ρ:=ρ) hg)
  exact h1'
 ·rename_i hg
  cases h
  obtain ⟨hh,Hh,k1,k2,a,e,⟨h1',h2⟩,hL⟩:=s.imp (aaQ (ρ:=ρ) hg)
  exact h1'
 ·rename_i hg
  cases h
  obtain ⟨hh,Hh,k1,k2,a,e,⟨h1',h2⟩,hL⟩:=s.imp (aaQ (ρ:=ρ) hg)
  exact h1'
 ·rename_i hg
  cases h
  obtain ⟨hh,Hh,k1,k2,a,e,⟨h1',h2⟩,hL⟩:=s.imp (aaQ (ρ:=ρ) hg)
  exact h1'
 ·rename_i hg
  cases h
  obtain ⟨hh,Hh,k1,k2,a,e,⟨_,_,_,_,_,_,⟨_,h1',_⟩,_⟩,hL⟩:=s.imp (aaQ (ρ:=ρ) hg)
  exact h1'
 ·cases h
end
def atL {α:Type} (d:α) (xs:List α) (i:Int):α:=(xs[i.toNat]?).getD d
def scF {T:Nat→Type} {M:Type}:Fl T M→Option V
 | .i k x =>some (.i k x)
 | .b x =>some (.b x)
 | .c u =>some (aCp u)
 | _ =>none
section
variable {K:KT} {ρ:Env}
theorem aFV {f:Fl K.T K.M} {v:V} (h:scF f=some v):aav ρ v=flV f:=by
 cases f<;>simp [scF] at h<;>subst h<;>first | rfl | exact ajv ..
theorem aIi {f:Fl K.T K.M} {v:V} {u:Value} {k:Hp} (h:scF f=some v) (hp:pcS K f u k):u=aav ρ v:=by
 rw [aaJ] at hp
 cases f<;>simp [scF] at h<;>subst h<;>simp only [aav,ajv]<;>exact hp
theorem alt {vss:List (List Value)} {sz:Nat} (hl:∀ vs∈vss,vs.length=sz):∀ {i o:Nat} {vs:List Value} {v:Value},vss[i]?=some vs→vs[o]?=some v→vss.flatten[i*sz+o]?=some v:=by
 induction vss with
 | nil =>intro i o vs v h; cases h
 | cons us vss ih =>
  intro i o vs v h h'
  have h0:=hl us (List.mem_cons_self ..)
  cases i with
  | zero =>
   simp at h; subst h
   rw [List.flatten_cons,Nat.zero_mul,Nat.zero_add,List.getElem?_append_left (List.getElem?_eq_some_iff.1 h').1]; exact h'
  | succ i =>
   rw [List.flatten_cons,List.getElem?_append_right (by rw [h0,Nat.add_mul]; omega)]
   have:=ih (fun vs h =>hl vs (List.mem_cons_of_mem _ h)) (i:=i) (by simpa using h) h'
   rw [← this]; congr 1; rw [h0,Nat.add_mul]; omega
theorem aiG {pc:Fl K.T K.M→Value→aad} {c:Nat}:∀ {xs:List (K.T c)} {vss:List (List Value)} {i:Nat} {x:K.T c} {vs:List Value},xs[i]?=some x→vss[i]?=some vs →
  ∃ M,(acB K pc c xs vss).Perm (fsS pc (K.vw c x) vs++M)∧∀ x' vs',(acB K pc c (xs.set i x') (vss.set i vs')).Perm (fsS pc (K.vw c x') vs'++M)
 | [],_,_,_,_,h,_ =>by cases h
 | _::_,[],_,_,_,_,h =>by cases h
 | g::xs,u::vss,0,x,vs,h,h' =>by
  simp at h h'; subst h h'
  exact ⟨acB K pc c xs vss,.refl _,fun _ _ =>.refl _⟩
 | g::xs,u::vss,i+1,x,vs,h,h' =>by
  obtain ⟨M,h1,h2⟩:=aiG (pc:=pc) (xs:=xs) (vss:=vss) (i:=i) (by simpa using h) (by simpa using h')
  refine ⟨fsS pc (K.vw c g) u++M,?_,fun x' vs' =>?_⟩
  ·exact (h1.append_left _).trans (by rw [← List.append_assoc,← List.append_assoc]; exact List.perm_append_comm.append_right _)
  ·exact ((h2 x' vs').append_left _).trans (by rw [← List.append_assoc,← List.append_assoc]; exact List.perm_append_comm.append_right _)
theorem axy {pc:Fl K.T K.M→Value→aad} {c:Nat}:∀ {xs:List (K.T c)} {vss:List (List Value)} {L:List aad} {h:Hp},ab1 (acB K pc c xs vss++L) h→xs.length=vss.length∧∀ (i:Nat) (x:K.T c) (vs:List Value),xs[i]?=some x→vss[i]?=some vs→(K.vw c x).length=vs.length
 | [],[],_,_,_ =>⟨rfl,fun _ _ _ h =>by cases h⟩
 | x::xs,vs::vss,L,h,s =>by
  have s':ab1 (fsS pc (K.vw c x) vs++(acB K pc c xs vss++L)) h:=by simpa [acB] using s
  have h1:=awR s'
  obtain ⟨k1,k2,a,e,_,s2⟩:=aan.1 s'
  obtain ⟨h2,h3⟩:=axy s2
  refine ⟨by simp [h2],fun i y us hy hu =>?_⟩
  cases i with
  | zero =>simp at hy hu; subst hy hu; exact h1
  | succ i =>exact h3 i y us (by simpa using hy) (by simpa using hu)
 | [],_::_,_,_,⟨_,_,_,_,hf,_⟩ =>hf.elim
 | _::_,[],_,_,⟨_,_,_,_,hf,_⟩ =>hf.elim
theorem aFZ {pc:Fl K.T K.M→Value→aad} {c:Nat} {xs:List (K.T c)} {vss:List (List Value)} {L:List aad} {h:Hp} (s:ab1 (acB K pc c xs vss++L) h):xs.length=vss.length∧∀ vs∈vss,vs.length=K.sz c:=by
 obtain ⟨h1,h2⟩:=axy s
 refine ⟨h1,fun vs hv =>?_⟩
 obtain ⟨i,hi⟩:=List.mem_iff_getElem?.1 hv
 have hlt:i<xs.length:=by rw [h1]; exact (List.getElem?_eq_some_iff.1 hi).1
 rw [← h2 i _ vs (List.getElem?_eq_getElem hlt) hi,K.sz_ok]
theorem alO {B:Nat} {w:World} {H:KT.H K} {X:List aad} {j c:Nat} {xs:List (K.T c)} (s:Sat B w (dH K ρ H++X)) (hg:get H j=some (.row c xs)) :
  (ρ.s j).n=xs.length∧∃ vss:List (List Value),xs.length=vss.length∧(∀ vs∈vss,vs.length=K.sz c)∧Sat B w (afQ (ρ.s j).a xs.length (ρ.s j).c (K.sz c) vss.flatten::(acB K (pcS K) c xs vss++(dH K ρ (del H j)++X))):=by
 obtain ⟨h,Hh,k1,k2,a,e,⟨h1',h2⟩,hL⟩:=s.imp (aaQ (ρ:=ρ) hg)
 rw [adO] at h2
 obtain ⟨vss,s2⟩:=h2
 have s3:ab1 ((afQ (ρ.s j).a xs.length (ρ.s j).c (K.sz c) vss.flatten::acB K (pcS K) c xs vss)++(dH K ρ (del H j)++X)) h:=aan.2 ⟨k1,k2,a,e,s2,hL⟩
 have h3:xs.length=vss.length∧∀ vs∈vss,vs.length=K.sz c:=by
  obtain ⟨q1,q2,a',e',_,hq⟩:=s2
  exact aFZ (L:=[]) (by simpa using hq)
 exact ⟨h1',vss,h3.1,h3.2,h,Hh,s3⟩
theorem avx {B:Nat} {w:World} {H:KT.H K} {X:List aad} {id j sz:Nat} {i:Int} (s:Sat B w (dH K ρ H++X)) (hg:get H id=some (.elt j i sz)):axg ρ id j sz i:=(s.imp (aaQ (ρ:=ρ) hg)).pure
theorem aff {α:Type} {d:α} {xs:List α} {i:Int} (h:0≤i∧i<(xs.length:Int)):xs[i.toNat]?=some (atL d xs i):=by
 have:i.toNat<xs.length:=by omega
 simp [atL,this]
theorem axB {B:Nat} {w:World} {H:KT.H K} {X:List aad} {id j c o:Nat} {i:Int} {xs:List (K.T c)} {f:Fl K.T K.M} (s:Sat B w (dH K ρ H++X)) (hg:get H j=some (.row c xs)) (he:axg ρ id j (K.sz c) i) (hf:(K.vw c (atL (K.df c) xs i))[o]?=some f) :
  ∃ v,w.cell? ⟨(ρ.p id).1,(ρ.p id).2+o,none⟩=some v∧∃ L,Sat B w (pcS K f v::L)∧Ent (pcS K f v::L) (acq K ρ j (.row c xs)::(dH K ρ (del H j)++X)):=by
 obtain ⟨h1',vss,h2,h3,s2⟩:=alO s hg
 obtain ⟨hi,b,o',hA,hp⟩:=he
 rw [h1'] at hi
 have hx:=aff (d:=K.df c) hi
 have hlt:i.toNat<vss.length:=by omega
 have hvs:vss[i.toNat]?=some vss[i.toNat]:=List.getElem?_eq_getElem hlt
 have hsz:=h3 _ (List.getElem_mem hlt)
 have hol:o<vss[i.toNat].length:=by rw [hsz,← K.sz_ok c (atL (K.df c) xs i)]; exact (List.getElem?_eq_some_iff.1 hf).1
 have hov:(vss[i.toNat])[o]?=some (vss[i.toNat])[o]:=List.getElem?_eq_getElem hol
 have hfl:=alt h3 hvs hov
 obtain ⟨r1,r2,r3,r4⟩:=agl s2 (List.mem_cons_self ..)
 refine ⟨(vss[i.toNat])[o],?_,?_⟩
 ·rcases r4 with ⟨r4,_⟩ | ⟨b2,o2,r4,r5⟩
  ·rw [r4] at hA; cases hA
  ·rw [r4] at hA
   cases hA
   rw [hp]
   have:=r5 _ _ hfl
   rw [← Nat.add_assoc] at this
   exact this
 ·obtain ⟨M,p1,_⟩:=aiG (pc:=pcS K) hx hvs
  have p2:=(alq (pc:=pcS K) hf hov).1
  have p3:=p1.trans (p2.append_right M)
  refine ⟨_,azS s2 p3,fun k hk =>?_⟩
  have s5:ab1 ((afQ (ρ.s j).a xs.length (ρ.s j).c (K.sz c) vss.flatten::acB K (pcS K) c xs vss)++(dH K ρ (del H j)++X)) k:=by
   refine abZ ?_ hk
   exact (List.Perm.swap ..).trans (List.Perm.cons _ (p3.symm.append_right _))
  obtain ⟨j1,j2,a'',e'',g1,g2⟩:=aan.1 s5
  exact ⟨j1,j2,a'',e'',⟨h1',adO.2 ⟨vss,g1⟩⟩,g2⟩
theorem aF8 {B:Nat} {w:World} {H:KT.H K} {X:List aad} {id j c o:Nat} {i:Int} {xs:List (K.T c)} {f:Fl K.T K.M} (s:Sat B w (dH K ρ H++X)) (hg:get H j=some (.ro c xs)) (he:axg ρ id j (K.sz c) i) (hf:(K.vw c (atL (K.df c) xs i))[o]?=some f) :
  w.cell? ⟨(ρ.p id).1,(ρ.p id).2+o,none⟩=some (flV f):=by
 obtain ⟨h,Hh,k1,k2,a,e,⟨h1',h2⟩,hL⟩:=s.imp (aaQ (ρ:=ρ) hg)
 have s2:Sat B w (roS (afF K c) (K.sz c) (ρ.s j).a (ρ.s j).c xs::(dH K ρ (del H j)++X)):=⟨h,Hh,k1,k2,a,e,h2,hL⟩
 obtain ⟨hi,b,o',hA,hp⟩:=he
 rw [h1'] at hi
 have hlt:i.toNat<xs.length:=by omega
 obtain ⟨b2,o2,hA2,_,hc⟩:=(auF s2 (List.mem_cons_self ..)).1.at_ hlt
 rw [hA] at hA2
 cases hA2
 have hx:=aff (d:=K.df c) hi
 have he2:xs[i.toNat]=atL (K.df c) xs i:=(List.getElem?_eq_some_iff.1 hx).2
 have:=hc i.toNat hlt o (flV f) (by rw [he2]; unfold afF; rw [List.getElem?_map,hf]; rfl)
 rw [hp]; exact this
end
section
variable {K:KT} {ρ:Env}
theorem aBb {B:Nat} {w:World} {H:KT.H K} {X:Env→List aad} {id j c o n:Nat} {i:Int} {xs:List (K.T c)} {f:Fl K.T K.M} {V0:V} {ch:Ch K.T K.M} (hop:opF K.vw n (.f f)=(V0,some ch)) (hn:agi H≤n) (hX:∀ ρ',aaA n ρ ρ'→X ρ=X ρ')
  (s:Sat B w (dH K ρ H++X ρ)) (hg:get H j=some (.row c xs)) (he:axg ρ id j (K.sz c) i) (hf:(K.vw c (atL (K.df c) xs i))[o]?=some f) :
  ∃ ρ',aaA n ρ ρ'∧Sat B w (dH K ρ' ((n,ch)::(j,.hole c xs i o V0)::del H j)++X ρ')∧w.cell? ⟨(ρ.p id).1,(ρ.p id).2+o,none⟩=some (aav ρ' V0):=by
 obtain ⟨h1',vss,h2,h3,s2⟩:=alO s hg
 obtain ⟨hi,b,o',hA,hp⟩:=he
 rw [h1'] at hi
 have hx:=aff (d:=K.df c) hi
 have hlt:i.toNat<vss.length:=by omega
 have hvs:vss[i.toNat]?=some vss[i.toNat]:=List.getElem?_eq_getElem hlt
 have hsz:=h3 _ (List.getElem_mem hlt)
 have hol:o<vss[i.toNat].length:=by rw [hsz,← K.sz_ok c (atL (K.df c) xs i)]; exact (List.getElem?_eq_some_iff.1 hf).1
 have hov:(vss[i.toNat])[o]?=some (vss[i.toNat])[o]:=List.getElem?_eq_getElem hol
 have hfl:=alt h3 hvs hov
 obtain ⟨r1,r2,r3,r4⟩:=agl s2 (List.mem_cons_self ..)
 have hcell:w.cell? ⟨(ρ.p id).1,(ρ.p id).2+o,none⟩=some (vss[i.toNat])[o]:=by
  rcases r4 with ⟨r4,_⟩ | ⟨b2,o2,r4,r5⟩
  ·rw [r4] at hA; cases hA
  ·rw [r4] at hA
   cases hA
   rw [hp]
   have:=r5 _ _ hfl
   rw [← Nat.add_assoc] at this
   exact this
 obtain ⟨M,p1,p1'⟩:=aiG (pc:=pcS K) hx hvs
 have p2:=(alq (pc:=pcS K) hf hov).1
 have p3:=p1.trans (p2.append_right M)
 have s3:Sat B w (pcS K f (vss[i.toNat])[o]::((afQ (ρ.s j).a xs.length (ρ.s j).c (K.sz c) vss.flatten::(fsS (pcS K) ((K.vw c (atL (K.df c) xs i)).eraseIdx o) ((vss[i.toNat]).eraseIdx o)++M))++(dH K ρ (del H j)++X ρ))):=s2.perm (by
  refine (List.Perm.cons _ (p3.append_right _)).trans ?_
  exact List.Perm.swap ..)
 obtain ⟨hh,Hh,k1,k2,a,e,hA1,hL⟩:=s3
 have hfF:fS K ρ (.f f) (vss[i.toNat])[o] k1:=hA1
 obtain ⟨ρ',ha,hv,hd⟩:=aAI (Nat.zero_le _) hfF
 rw [hop] at hv hd
 simp only at hv hd
 refine ⟨ρ',ha,?_,by rw [hcell,hv]⟩
 have hgt:=ai9 hg
 have hjn:j<n:=Nat.lt_of_lt_of_le hgt.1 hn
 obtain ⟨q1,q2,a',e',g1,g2⟩:=aan.1 hL
 rw [aca ha (del H j) (Nat.le_trans agh hn),hX _ ha] at g2
 refine ⟨hh,Hh,k1,k2,a,e,hd,q1,q2,a',e',⟨by rw [← (ha j hjn).2.1]; exact h1',?_⟩,g2⟩
 rw [← (ha j hjn).2.1]
 refine ⟨atL (K.df c) xs i,vss,vss[i.toNat],M,⟨hx,hvs,by rw [← hv]; exact hov⟩,fun x' =>?_,(List.getElem?_eq_some_iff.1 hf).1,g1⟩
 have:=p1' x' vss[i.toNat]
 rw [asP hvs] at this
 exact this
theorem ay6 {B:Nat} {w:World} {id c o:Nat} {i:Int} {xs:List (K.T c)} {u:V} {f':Fl K.T K.M} {x':K.T c} {L:List aad} (hx':K.vw c x'=(K.vw c (atL (K.df c) xs i)).set o f')
  (s:Sat B w (acq K ρ id (.hole c xs i o u)::pcS K f' (aav ρ u)::L)):Sat B w ((fun h =>(ρ.s id).n=(xs.set i.toNat x').length∧rwS K c (xs.set i.toNat x') (ρ.s id).a (ρ.s id).c h)::L):=by
 obtain ⟨hh,Hh,k1,k2,a,e,⟨h1,x,vss,vs,N,⟨hx,hvs,hov⟩,hp,ho,hst⟩,hL⟩:=s
 obtain rfl:x=atL (K.df c) xs i:=by unfold atL; rw [hx]; rfl
 have s2:ab1 ((afQ (ρ.s id).a xs.length (ρ.s id).c (K.sz c) vss.flatten::(fsS (pcS K) ((K.vw c (atL (K.df c) xs i)).eraseIdx o) (vs.eraseIdx o)++N))++(pcS K f' (aav ρ u)::L)) hh:=aan.2 ⟨k1,k2,a,e,hst,hL⟩
 have hf:(K.vw c (atL (K.df c) xs i))[o]?=some (K.vw c (atL (K.df c) xs i))[o]:=List.getElem?_eq_getElem ho
 have p2:=(alq (pc:=pcS K) hf hov).2 f' (aav ρ u)
 rw [asP hov,← hx'] at p2
 have s3:ab1 ((afQ (ρ.s id).a xs.length (ρ.s id).c (K.sz c) vss.flatten::acB K (pcS K) c (xs.set i.toNat x') vss)++L) hh:=by
  refine abZ ?_ s2
  refine List.Perm.cons _ ?_
  refine List.Perm.trans ?_ (((hp x').trans (p2.append_right N)).symm.append_right L)
  simp only [List.cons_append,List.append_assoc]
  exact (List.perm_middle (l₁:=fsS (pcS K) ((K.vw c (atL (K.df c) xs i)).eraseIdx o) (vs.eraseIdx o)++N)).trans (by rw [List.append_assoc])
 obtain ⟨j1,j2,a'',e'',g1,g2⟩:=aan.1 s3
 refine ⟨hh,Hh,j1,j2,a'',e'',⟨by rw [List.length_set]; exact h1,adO.2 ⟨vss,?_⟩⟩,g2⟩
 rw [List.length_set]; exact g1
end
section
variable (K:KT)
def opn (n:Nat) (H:KT.H K) (id o:Nat):Option (Bool×KT.H K×V) :=
 match get H id with
 | some (.cells fs) =>match fs[o]? with
  | some f =>match opF K.vw n f with
   | (v,none) =>some (false,H,v)
   | (v,some c) =>match Nat.ble (agi H) n with
    | true =>some (true,(n,c)::(id,.cells (fs.set o (.v v)))::del H id,v)
    | false =>none
  | none =>none
 | some (.elt j i sz) =>match get H j with
  | some (.row c xs) =>match Nat.beq sz (K.sz c) with
   | true =>match (K.vw c (atL (K.df c) xs i))[o]? with
    | some (.ro c' ys) =>match Nat.ble (agi H) n with
     | true =>some (true,(n,.ro c' ys)::(j,.row c xs)::del H j,.sl n)
     | false =>none
    | some f =>match scF f with
     | some v =>some (false,H,v)
     | none =>match opF K.vw n (.f f) with
      | (v,some ch) =>match Nat.ble (agi H) n with
       | true =>some (true,(n,ch)::(j,.hole c xs i o v)::del H j,v)
       | false =>none
      | (_,none) =>none
    | none =>none
   | false =>none
  | some (.ro c xs) =>match Nat.beq sz (K.sz c) with
   | true =>match (K.vw c (atL (K.df c) xs i))[o]? with
    | some f =>(scF f).map fun v =>(false,H,v)
    | none =>none
   | false =>none
  | some (.rr c xss) =>match Nat.beq sz 1 && Nat.beq o 0 && Nat.ble (agi H) n with
   | true =>some (true,(n,.ro c (atL [] xss i))::(j,.rr c xss)::del H j,.sl n)
   | false =>none
  | _ =>none
 | _ =>none
end
section
variable {K:KT}
theorem au4 {n:Nat} {H H':KT.H K} {id o:Nat} {v:V} {ch:Bool} (h:opn K n H id o=some (ch,H',v)) {ρ:Env} {B:Nat} {w:World} {X:Env→List aad} (hX:ch=true→∀ ρ',aaA n ρ ρ'→X ρ=X ρ') (s:Sat B w (dH K ρ H++X ρ)) :
  ∃ ρ',(aaA n ρ ρ'∧(ch=false→ρ'=ρ))∧Sat B w (dH K ρ' H'++X ρ')∧w.cell? ⟨(ρ.p id).1,(ρ.p id).2+o,none⟩=some (aav ρ' v):=by
 unfold opn at h
 split at h
 ·rename_i fs hg
  split at h
  ·rename_i f hf
   obtain ⟨vs,u,hu,hl,s2,hc⟩:=aEk s hg hf
   have p1:=(alq (pc:=fS K ρ) hf hu).1
   have s3:=azS s2 p1
   split at h
   ·rename_i v' hop
    cases h
    obtain ⟨hh,Hh,k1,k2,a,e,hA,hL⟩:=s3
    -- a value that brings nothing with it
    have key:u=aav ρ v:=by
     cases f with
     | v x =>cases hop; exact hA
     | f x =>
      have hp:pcS K x u k1:=hA
      cases x<;>simp only [opF,Prod.mk.injEq,reduceCtorEq,and_false,and_true] at hop<;>subst hop<;>rw [aaJ] at hp<;>simp only [aav,ajv]<;>exact hp
    exact ⟨ρ,⟨aaA.refl _ _,fun _ =>rfl⟩,s,by rw [hc,key]⟩
   ·rename_i v' c hop
    split at h
    ·rename_i hb
     cases h
     have hn:agi H≤n:=Nat.le_of_ble_eq_true hb
     have hgt:=ai9 hg
     obtain ⟨hh,Hh,k1,k2,a,e,hA,hL⟩:=s3
     have hft:aEw f≤n:=Nat.le_trans (azw hf) (Nat.le_trans hgt.2 hn)
     obtain ⟨ρ',ha,hv,hd⟩:=aAI hft hA
     rw [hop] at hv hd
     simp only at hv hd
     refine ⟨ρ',⟨ha,fun e =>by cases e⟩,?_,by rw [hc,hv]⟩
     have hid:id<n:=Nat.lt_of_lt_of_le hgt.1 hn
     have e0:=aro ha (fs.eraseIdx o) (vs.eraseIdx o) (Nat.le_trans aqq (Nat.le_trans hgt.2 hn))
     have e1:dH K ρ (del H id)=dH K ρ' (del H id):=aca ha _ (Nat.le_trans agh hn)
     rw [e0,e1,(ha id hid).1,hX rfl _ ha] at hL
     have p2:=(alq (pc:=fS K ρ') hf hu).2 (.v v) u
     rw [asP hu] at p2
     refine ⟨hh,Hh,k1,k2,a,e,hd,?_⟩
     obtain ⟨q1,q2,a',e',hp,hq⟩:=hL
     have s6:ab1 ((pts (ρ'.p id).1 (ρ'.p id).2 vs::fsS (fS K ρ') (fs.set o (.v v)) vs)++(dH K ρ' (del H id)++X ρ')) k2:=by
      refine ⟨q1,q2,a',e',hp,abZ (p2.symm.append_right _) ?_⟩
      exact (arw (L:=fsS (fS K ρ') (fs.eraseIdx o) (vs.eraseIdx o)++(dH K ρ' (del H id)++X ρ')) hv) q2 hq
     obtain ⟨j1,j2,a'',e'',g1,g2⟩:=aan.1 s6
     exact ⟨j1,j2,a'',e'',⟨vs,g1⟩,g2⟩
    ·cases h
  ·cases h
 ·rename_i j i sz hj0
  have he0:=avx s hj0
  split at h
  ·rename_i c xs hj
   split at h
   ·rename_i hsz
    obtain rfl:=Nat.eq_of_beq_eq_true hsz
    have he:=he0
    split at h
    ·rename_i c' ys hf
     split at h
     ·rename_i hb
      cases h
      have hn:agi H≤n:=Nat.le_of_ble_eq_true hb
      obtain ⟨u,hc,L,s2,back⟩:=axB s hj he hf
      have hgt:=ai9 hj
      have hjn:j<n:=Nat.lt_of_lt_of_le hgt.1 hn
      obtain ⟨hh,Hh,k1,k2,a,e,hA,hL⟩:=s2
      have hA':=hA
      rw [aaJ] at hA'
      obtain ⟨A,cap,hu,hro⟩:=hA'
      have s3:Sat B w (roS (afF K c') (K.sz c') A cap ys::L):=⟨hh,Hh,k1,k2,a,e,hro,hL⟩
      have ha:=acs ρ n ⟨A,ys.length,cap⟩
      have e1:dH K ρ (del H j)=dH K (ρ.setS n ⟨A,ys.length,cap⟩) (del H j):=aca ha _ (Nat.le_trans agh hn)
      have e2:acq K ρ j (.row c xs)=acq K (ρ.setS n ⟨A,ys.length,cap⟩) j (.row c xs):=ad8 ha hjn _ (Nat.le_trans hgt.2 hn)
      refine ⟨_,⟨ha,fun e =>by cases e⟩,?_,by rw [hc,hu]; simp [aav,Env.setS]⟩
      have s4:=s3.imp az1
      refine s4.imp fun k hk =>?_
      refine aaO (fun k hk =>?_) (abz (fun k hk =>?_) hk)
      ·exact ⟨by simp [Env.setS],by simpa [Env.setS] using hk⟩
      ·have fold:∀ q:Hp,roS (afF K c') (K.sz c') A cap ys q→pcS K (.ro c' ys) u q:=fun q hq =>(aaJ (K:=K)).2 (show pcW K (obS K) (rwS K) (.ro c' ys) u q from ⟨A,cap,hu,hq⟩)
       have:=back k (aaO fold hk)
       rw [e1,e2,hX rfl _ ha] at this
       exact this
     ·cases h
    ·rename_i f _ hf
     split at h
     ·rename_i v' hv
      cases h
      obtain ⟨u,hc,L,⟨hh,Hh,k1,k2,a,e,hA,hL⟩,_⟩:=axB s hj he hf
      exact ⟨ρ,⟨aaA.refl _ _,fun _ =>rfl⟩,s,by rw [hc,aIi hv hA]⟩
     ·split at h
      ·rename_i v' ch' hop
       split at h
       ·rename_i hb
        cases h
        obtain ⟨ρ',ha,hs,hc⟩:=aBb hop (Nat.le_of_ble_eq_true hb) (hX rfl) s hj he hf
        exact ⟨ρ',⟨ha,fun e =>by cases e⟩,hs,hc⟩
       ·cases h
      ·cases h
    ·cases h
   ·cases h
  ·rename_i c xs hj
   split at h
   ·rename_i hsz
    obtain rfl:=Nat.eq_of_beq_eq_true hsz
    have he:=he0
    split at h
    ·rename_i f hf
     simp only [Option.map_eq_some_iff,Prod.mk.injEq] at h
     obtain ⟨v',hv,rfl,rfl,rfl⟩:=h
     exact ⟨ρ,⟨aaA.refl _ _,fun _ =>rfl⟩,s,by rw [aF8 s hj he hf,aFV hv]⟩
    ·cases h
   ·cases h
  ·rename_i c xss hj
   split at h
   ·rename_i hB
    cases h
    simp only [Bool.and_eq_true] at hB
    obtain ⟨⟨b1,b2⟩,b3⟩:=hB
    obtain rfl:=Nat.eq_of_beq_eq_true b1
    obtain rfl:=Nat.eq_of_beq_eq_true b2
    have hn:agi H≤n:=Nat.le_of_ble_eq_true b3
    have hgt:=ai9 hj
    have hjn:j<n:=Nat.lt_of_lt_of_le hgt.1 hn
    obtain ⟨hi,b,o',hA,hp⟩:=he0
    obtain ⟨hh,Hh,k1,k2,a,e,⟨h1',ps,h2⟩,hL⟩:=s.imp (aaQ (ρ:=ρ) hj)
    rw [h1'] at hi
    have hx:=aff (d:=([]:List (K.T c))) hi
    have s2:Sat B w (afN _::(dH K ρ (del H j)++X ρ)):=⟨hh,Hh,k1,k2,a,e,h2,hL⟩
    obtain ⟨q,hq,_,b2,o2,hA2,_,hc⟩:=(am7 s2 (List.mem_cons_self ..)).2 _ _ hx
    rw [hA] at hA2
    cases hA2
    have ha:=acs ρ n ⟨q.1,(atL [] xss i).length,q.2⟩
    have e1:dH K ρ (del H j)=dH K (ρ.setS n ⟨q.1,(atL [] xss i).length,q.2⟩) (del H j):=aca ha _ (Nat.le_trans agh hn)
    refine ⟨_,⟨ha,fun e =>by cases e⟩,?_,by rw [hp,Nat.mul_one,Nat.add_zero,hc]; simp [aav,Env.setS]⟩
    have s3:=s2.imp am8
    refine s3.imp fun k hk =>?_
    rw [e1,hX rfl _ ha] at hk
    refine aaO (fun k hk =>?_) (abz (fun k hk =>aaO (fun k hk =>?_) hk) hk)
    ·refine ⟨by simp [Env.setS],?_⟩
     have:=aet (Ψ:=fun u =>Sl (afF K c) (K.sz c) u u.heap.size q.1 (atL [] xss i)∧(atL [] xss i).length≤q.2) (fun u hu =>by
      obtain ⟨q',hq',hs,_⟩:=hu.2 _ _ hx
      rw [hq] at hq'
      cases hq'
      exact hs) k hk
     have this2:roS (afF K c) (K.sz c) q.1 q.2 (atL [] xss i) k:=this
     simpa [Env.setS] using this2
    ·have hjn':j≠n:=by omega
     exact ⟨by simpa [Env.setS,hjn'] using h1',ps,by simpa [Env.setS,hjn'] using hk⟩
   ·cases h
  ·cases h
 ·cases h
end
section
variable (K:KT)
def aIJ:Nat→Nat→KT.H K→Nat→Nat→Option (Bool×KT.H K×List V)
 | 0,_,H,_,_ =>some (false,H,[])
 | k+1,n,H,id,o =>match opn K n H id o with
  | some (ch,H',v) =>match Nat.ble (akc v) (n+1) with
   | true =>match Nat.blt id n with
    | true =>match aIJ k (n+1) H' id (o+1) with
     | some (ch',H'',l) =>some (ch || ch',H'',v::l)
     | none =>none
    | false =>none
   | false =>none
  | none =>none
end
section
variable {K:KT}
theorem ati:∀ {k n:Nat} {H H':KT.H K} {id o:Nat} {l:List V} {ch:Bool} {ρ:Env} {B:Nat} {w:World} {X:Env→List aad},(ch=true→∀ ρ ρ',aaA n ρ ρ'→X ρ=X ρ')→aIJ K k n H id o=some (ch,H',l)→Sat B w (dH K ρ H++X ρ) →
  ∃ ρ',(aaA n ρ ρ'∧(ch=false→ρ'=ρ))∧Sat B w (dH K ρ' H'++X ρ')∧l.length=k∧∀ j v,(aag ρ' l)[j]?=some v→w.cell? ⟨(ρ.p id).1,(ρ.p id).2+o+j,none⟩=some v
 | 0,n,H,H',id,o,l,ch,ρ,B,w,X,hX,h,s =>by
  cases h
  exact ⟨ρ,⟨aaA.refl _ _,fun _ =>rfl⟩,s,rfl,fun j v hj =>by simp [aag] at hj⟩
 | k+1,n,H,H',id,o,l,ch,ρ,B,w,X,hX,h,s =>by
  unfold aIJ at h
  split at h
  ·rename_i ch1 H1 v h1
   split at h
   ·rename_i ht
    split at h
    ·rename_i hid
     split at h
     ·rename_i ch2 H2 l2 h2
      cases h
      have ht':akc v≤n+1:=Nat.le_of_ble_eq_true ht
      have hid':id<n:=Nat.le_of_ble_eq_true hid
      obtain ⟨ρ1,⟨a1,e1⟩,s1,c1⟩:=au4 h1 (fun hc ρ' =>hX (by rw [hc]; rfl) _ ρ') s
      obtain ⟨ρ2,⟨a2,e2⟩,s2,hl,c2⟩:=ati (fun hc ρ ρ' ha =>hX (by rw [hc,Bool.or_true]) _ _ (ha.le (Nat.le_succ n))) h2 s1
      refine ⟨ρ2,⟨a1.trans a2 (Nat.le_succ n),fun hc =>?_⟩,s2,by simp [hl],fun j u hj =>?_⟩
      ·simp only [Bool.or_eq_false_iff] at hc
       rw [e2 hc.2,e1 hc.1]
      ·cases j with
       | zero =>
        simp only [aag,List.getElem?_cons_zero,Option.some.injEq] at hj
        rw [← hj,← abh a2 v ht']
        exact c1
       | succ j =>
        simp only [aag,List.getElem?_cons_succ] at hj
        have:=c2 j u hj
        rw [← (a1 id hid').1] at this
        rw [← this]; congr 2; omega
     ·cases h
    ·cases h
   ·cases h
  ·cases h
end
section
variable (K:KT)
def aKh (P:Program) (R:aa3) (n:Nat) (Z H:KT.H K) (T:TypeId) (x:V):Option (Nat×KT.H K×V) :=
 match x with
 | .ptr id o =>match afL P T with
  | some none =>match opn K n H id o with
   | some (false,H',v) =>some (n,H',v)
   | some (true,H',v) =>match Nat.ble (axq R) n && Nat.ble (agi Z) n with
    | true =>some (n+1,H',v)
    | false =>none
   | none =>none
  | some (some k) =>match aIJ K k n H id o with
   | some (false,H',l) =>some (n,H',.agg l)
   | some (true,H',l) =>match Nat.ble (axq R) n && Nat.ble (agi Z) n with
    | true =>some (n+k,H',.agg l)
    | false =>none
   | none =>none
  | none =>none
 | _ =>none
end
section
variable {K:KT} {P:Program} {nt n B:Nat} {W:World} {R:aa3} {Z H:KT.H K} {nx:Nat→KT.H K→V→Prop}
theorem akD {w:World} {b o:Nat} {T:TypeId} {v:Value} (ht:afL P T=some none) (h:w.cell? ⟨b,o,none⟩=some v):(Instr.loadAt T (.pointer (some ⟨b,o,none⟩))).run P w=.ok v w :=
 alm (us:=[v]) ht rfl (fun j u hj =>by
  cases j with
  | zero =>simp at hj; subst hj; exact h
  | succ j =>simp at hj) rfl
theorem aut {o:Oper} {T:TypeId} {x:Operand} {u v:V} {n':Nat} {H':KT.H K} (ho:o.op=.load T x) (hx:evO R x=some u) (h:aKh K P R n Z H T u=some (n',H',v)) (hn:nx n' H' v):aeZ K P nt B W o R n Z H nx:=fun F ρ a w s =>by
 obtain ⟨d,op,ty,ps,af,g⟩:=o
 simp only at ho
 subst ho
 have ex:=(aaI (ρ:=ρ) hx).eval s.regs
 unfold aKh at h
 split at h
 ·rename_i id o'
  have fin:∀ (ρ':Env) (vv:V) (nn:Nat) (HH:KT.H K),n≤nn→aaA n ρ ρ'→dR ρ' R=dR ρ R→Sat B w (dS K ρ' Z HH F)→nx nn HH vv→(Instr.loadAt T (.pointer (some ⟨(ρ.p id).1,(ρ.p id).2+o',none⟩))).run P w=.ok (aav ρ' vv) w →
    ai7 P (fun (x:Nx K) w' =>(aaA n ρ x.ρ∧n≤x.n∧dR x.ρ R=dR ρ R∧nx x.n x.H x.v)∧Cls B W (dS K x.ρ Z x.H F) w') (fun x =>aav x.ρ x.v) ((execOp a.eval ⟨d,.load T x,ty,ps,af,g⟩).run P w):=by
   intro ρ' vv nn HH h1 h2 h3 h4 h5 h6
   have:(execOp a.eval ⟨d,.load T x,ty,ps,af,g⟩).run P w=.ok (.value (aav ρ' vv)) w:=by
    simp only [execOp,ex,aav]
    rw [aaa h6]; rfl
   rw [this]
   exact ⟨⟨ρ',nn,HH,vv⟩,rfl,⟨h2,h1,h3,h5⟩,s.below,s.lo,h4⟩
  split at h
  ·rename_i hT
   split at h
   ·rename_i h1
    cases h
    obtain ⟨ρ',⟨ha,he⟩,s1,hc⟩:=au4 (X:=tl K Z F) h1 (fun e =>by cases e) s.sat
    obtain rfl:=he rfl
    exact fin _ _ _ _ (Nat.le_refl _) ha rfl s1 hn (akD hT hc)
   ·rename_i h1
    split at h
    ·rename_i hR
     cases h
     simp only [Bool.and_eq_true] at hR
     obtain ⟨ρ',⟨ha,he⟩,s1,hc⟩:=au4 (X:=tl K Z F) h1 (fun _ ρ' ha =>ada (Nat.le_of_ble_eq_true hR.2) ha) s.sat
     exact fin _ _ _ _ (Nat.le_succ _) ha (abX ha _ (Nat.le_of_ble_eq_true hR.1)).symm s1 hn (akD hT hc)
    ·cases h
   ·cases h
  ·rename_i k hT
   split at h
   ·rename_i h1
    cases h
    obtain ⟨ρ',⟨ha,he⟩,s1,hl,hc⟩:=ati (X:=tl K Z F) (fun e =>by cases e) h1 s.sat
    obtain rfl:=he rfl
    exact fin _ _ _ _ (Nat.le_refl _) ha rfl s1 hn (alm hT (by rw [aaT]; simpa using hl) hc rfl)
   ·rename_i h1
    split at h
    ·rename_i hR
     cases h
     simp only [Bool.and_eq_true] at hR
     obtain ⟨ρ',⟨ha,he⟩,s1,hl,hc⟩:=ati (X:=tl K Z F) (fun _ _ _ ha =>ada (Nat.le_of_ble_eq_true hR.2) ha) h1 s.sat
     exact fin _ _ _ _ (Nat.le_add_right ..) ha (abX ha _ (Nat.le_of_ble_eq_true hR.1)).symm s1 hn (alm hT (by rw [aaT]; simpa using hl) hc rfl)
    ·cases h
   ·cases h
  ·cases h
 ·cases h
end
def aaF:V→List V
 | .agg l =>l
 | v =>[v]
section
variable {K:KT}
def scV (H:KT.H K):V→Bool
 | .agg _ =>false
 | .tup _ =>false
 | .c v =>adY v
 | .mc id =>match get H id with
  | some (.mach _) =>true
  | some (.mp ..) =>true
  | _ =>false
 | _ =>true
def aCj {T:Nat→Type} {M:Type} (fs:List (Fd T M)) (o:Nat) (us:List V):List (Fd T M):=fs.take o++us.map .v++fs.drop (o+us.length)
theorem atB {ρ:Env}:∀ {us:List V} {o:Nat} {fs:List (Fd K.T K.M)} {vs:List Value} {L:List aad} {h:Hp},o+us.length≤fs.length→fs.length=vs.length→ab1 (fsS (fS K ρ) fs vs++L) h →
  ab1 (fsS (fS K ρ) (aCj fs o us) (vs.take o++aag ρ us++vs.drop (o+us.length))++L) h
 | us,o+1,[],vs,L,h,h1,_,_ =>by simp at h1
 | us,o+1,f::fs,[],L,h,_,h2,_ =>by simp at h2
 | us,o+1,f::fs,v::vs,L,h,h1,h2,s =>by
  have e1:aCj (f::fs) (o+1) us=f::aCj fs o us:=by simp [aCj,Nat.add_right_comm o 1]
  have e2:(v::vs).take (o+1)++aag ρ us++(v::vs).drop (o+1+us.length)=v::(vs.take o++aag ρ us++vs.drop (o+us.length)):=by simp [Nat.add_right_comm o 1]
  rw [e1,e2]
  simp only [fsS,List.cons_append] at s ⊢
  exact abz (fun k hk =>atB (by simp at h1; omega) (by simpa using h2) hk) s
 | [],0,fs,vs,L,h,_,_,s =>by simpa [aCj,aag] using s
 | u::us,0,[],vs,L,h,h1,_,_ =>by simp at h1
 | u::us,0,f::fs,[],L,h,_,h2,_ =>by simp at h2
 | u::us,0,f::fs,v::vs,L,h,h1,h2,s =>by
  have e1:aCj (f::fs) 0 (u::us)=.v u::aCj fs 0 us:=by simp [aCj]
  have e2:(v::vs).take 0++aag ρ (u::us)++(v::vs).drop (0+(u::us).length)=aav ρ u::(vs.take 0++aag ρ us++vs.drop (0+us.length)):=by simp [aag]
  rw [e1,e2]
  simp only [fsS,List.cons_append] at s ⊢
  have s1:=Ent.drop h s
  exact arw (p:=aav ρ u=aav ρ u) rfl h (atB (us:=us) (o:=0) (by simp at h1 ⊢; omega) (by simpa using h2) s1)
theorem azR {ρ:Env} {H:KT.H K} {X:List aad} {B:Nat} {w:World} {v:V} (h:scV H v=true) (s:Sat B w (dH K ρ H++X)):adY (aav ρ v)=true:=by
 cases v<;>first | rfl | (cases h; done) | exact h | skip
 rename_i id
 simp only [scV] at h
 split at h
 ·rename_i m hg
  obtain ⟨hh,Hh,k1,k2,a,e,hA,hL⟩:=s.imp (aaQ (ρ:=ρ) hg)
  have hA':pcS K (.mach m) (ρ.v id) k1:=hA
  rw [aaJ] at hA'
  simp only [pcW] at hA'
  simp only [aav]
  split at hA'
  ·rw [hA']; rfl
  ·obtain ⟨q,e',_⟩:=hA'; rw [e']; rfl
 ·rename_i c ag m hg
  obtain ⟨hh,Hh,k1,k2,a,e,hA,hL⟩:=s.imp (aaQ (ρ:=ρ) hg)
  have hA':pcS K (.mp c ag m) (ρ.v id) k1:=hA
  rw [aaJ] at hA'
  obtain ⟨b,e',_⟩:=hA'
  simp only [aav]
  rw [e']; rfl
 ·cases h
theorem auA {v:Value} (h:adY v=true):v.cells.toList=[v]:=by cases v<;>simp [adY] at h<;>rfl
theorem anx {ρ:Env} {H:KT.H K} {X:List aad} {B:Nat} {w:World} {v:V} (h:(aaF v).all (scV H)=true) (s:Sat B w (dH K ρ H++X)):(aav ρ v).cells.toList=aag ρ (aaF v)∧(aag ρ (aaF v)).all adY=true:=by
 have h2:(aag ρ (aaF v)).all adY=true:=by
  rw [aaT,List.all_map,List.all_eq_true]
  intro x hx
  exact azR (List.all_eq_true.1 h x hx) s
 refine ⟨?_,h2⟩
 cases v with
 | agg l =>simp [aav,Value.cells,aaF]
 | _ =>exact auA (by simpa [aaF,aag] using h2)
end
section
variable (K:KT)
def aKg (P:Program) (H:KT.H K) (T:TypeId) (x u:V):Option (KT.H K) :=
 match x with
 | .ptr id o =>match get H id with
  | some (.cells fs) =>match Nat.beq (P.cellsOf T) (aaF u).length && Nat.blt 0 (aaF u).length && Nat.ble (o+(aaF u).length) fs.length && (aaF u).all (scV H) with
   | true =>some ((id,.cells (aCj fs o (aaF u)))::del H id)
   | false =>none
  | _ =>none
 | _ =>none
end
section
variable {K:KT} {P:Program} {nt n B:Nat} {W:World} {R:aa3} {Z H:KT.H K} {nx:Nat→KT.H K→V→Prop}
theorem ar4 {o:Oper} {T:TypeId} {x y:Operand} {u v:V} {H':KT.H K} (ho:o.op=.store T x y) (hx:evO R x=some u) (hy:evO R y=some v) (h:aKg K P H T u v=some H') (hn:nx n H' (.c undef)):aeZ K P nt B W o R n Z H nx:=fun F ρ a w s =>by
 obtain ⟨d,op,ty,ps,af,g⟩:=o
 simp only at ho
 subst ho
 have ex:=(aaI (ρ:=ρ) hx).eval s.regs
 have ey:=(aaI (ρ:=ρ) hy).eval s.regs
 unfold aKg at h
 split at h
 ·rename_i id o'
  split at h
  ·rename_i fs hg
   split at h
   ·rename_i hB
    cases h
    simp only [Bool.and_eq_true] at hB
    obtain ⟨⟨⟨b1,b2⟩,b3⟩,b4⟩:=hB
    have b1':=Nat.eq_of_beq_eq_true b1
    have b2':0<(aaF v).length:=Nat.le_of_ble_eq_true b2
    have b3':=Nat.le_of_ble_eq_true b3
    obtain ⟨hcl,hsc⟩:=anx b4 s.sat
    obtain ⟨vs,s2⟩:=ah4 (s.sat.imp (aaQ (ρ:=ρ) hg))
    have hl:=akh s2
    have hlen:(aag ρ (aaF v)).length=(aaF v).length:=by rw [aaT]; simp
    obtain ⟨w',hr,c1,c2,c3⟩:=aoQ (P:=P) (T:=T) (v:=aav ρ v) (W:=W) (o':=(ρ.p id).2+o') (i:=o') (k:=(aaF v).length) (us:=aag ρ (aaF v)) s2 s.below s.lo rfl b1' hlen b2' hcl hsc (by omega)
    have:(execOp a.eval ⟨d,.store T x y,ty,ps,af,g⟩).run P w=.ok .skip w':=by
     simp only [execOp,ex,ey,aav,Instr.storeAt,Instr.sureAddr]
     rw [aaa (a:=()) (w':=w') (by rw [aaa (a:=(⟨(ρ.p id).1,(ρ.p id).2+o',none⟩:Addr)) (w':=w) rfl]; exact hr)]
     rfl
    rw [this]
    refine ⟨⟨ρ,n,_,.c undef⟩,rfl,⟨aaA.refl _ _,Nat.le_refl _,rfl,hn⟩,c1,c2,c3.imp fun h hk =>?_⟩
    obtain ⟨k1,k2,a',e',hp,hq⟩:=hk
    have hq2:=atB (us:=aaF v) (o:=o') b3' hl hq
    have s6:ab1 ((pts (ρ.p id).1 (ρ.p id).2 (vs.take o'++aag ρ (aaF v)++vs.drop (o'+(aaF v).length))::fsS (fS K ρ) (aCj fs o' (aaF v)) (vs.take o'++aag ρ (aaF v)++vs.drop (o'+(aaF v).length)))++(dH K ρ (del H id)++tl K Z F ρ)) h:=⟨k1,k2,a',e',hp,hq2⟩
    obtain ⟨j1,j2,a'',e'',g1,g2⟩:=aan.1 s6
    exact ⟨j1,j2,a'',e'',⟨_,g1⟩,g2⟩
   ·cases h
  ·cases h
 ·cases h
end
section
variable (K:KT)
def ab0 (R:aa3) (n:Nat) (Z H:KT.H K):Bool:=Nat.ble (axq R) n && Nat.ble (agi Z) n && Nat.ble (agi H) n
def aHJ (R:aa3) (n:Nat) (Z H:KT.H K) (vs:List V):Option (Nat×KT.H K×V) :=
 match ab0 K R n Z H && Nat.ble (ai8 vs) n with
 | true =>some (n+1,(n,.cells (vs.map .v))::H,.ptr n 0)
 | false =>none
def av6 (P:Program) (T:TypeId):Option (List V):=(axi P T).map fun z =>z.cells.toList.map aCp
end
section
variable {K:KT} {P:Program} {nt n B:Nat} {W:World} {R:aa3} {Z H:KT.H K} {nx:Nat→KT.H K→V→Prop}
theorem ajp {ρ:Env}:∀ {vs:List V} {L:List aad} {h:Hp},ab1 L h→ab1 (fsS (fS K ρ) (vs.map .v) (aag ρ vs)++L) h
 | [],_,_,s =>s
 | v::vs,L,h,s =>arw (p:=aav ρ v=aav ρ v) rfl h (ajp (vs:=vs) s)
theorem aAO {o:Oper} {vs:List V} {n':Nat} {H':KT.H K} {v:V} (h:aHJ K R n Z H vs=some (n',H',v)) (hn:nx n' H' v)
  (ho:∀ F ρ a w,Sta nt B W (dR ρ R) (dS K ρ Z H F) a w→∃ u T,(execOp a.eval o).run P w=.ok (.value (.pointer (some ⟨w.heap.size,0,none⟩))) (w.alloc (.cells u T))∧u.toList=aag ρ vs):aeZ K P nt B W o R n Z H nx:=fun F ρ a w s =>by
 unfold aHJ at h
 split at h
 ·rename_i hB
  cases h
  simp only [ab0,Bool.and_eq_true] at hB
  obtain ⟨⟨⟨b1,b0⟩,b2⟩,b3⟩:=hB
  have b1':=Nat.le_of_ble_eq_true b1
  have b0':=Nat.le_of_ble_eq_true b0
  have b2':=Nat.le_of_ble_eq_true b2
  have b3':=Nat.le_of_ble_eq_true b3
  obtain ⟨u,T,hr,hu⟩:=ho F ρ a w s
  rw [hr]
  have ha:=ai2 ρ n (w.heap.size,0)
  refine ⟨⟨ρ.setP n (w.heap.size,0),n+1,_,.ptr n 0⟩,by simp [aav,Env.setP],⟨ha,Nat.le_succ _,(abX ha R b1').symm,hn⟩,afe s.below s.lo _,by simpa using Nat.le_succ_of_le s.lo,?_⟩
  have s1:=s.sat.fresh (cs:=u) (T:=T) s.lo
  refine s1.imp fun h hk =>?_
  obtain ⟨k1,k2,a',e',hp,hq⟩:=hk
  rw [hu,aey ha vs b3'] at hp
  have hq':ab1 (dS K (ρ.setP n (w.heap.size,0)) Z H F) k2:=by unfold dS; rw [← aca ha H b2',← ada b0' ha]; exact hq
  have s6:ab1 ((pts w.heap.size 0 (aag (ρ.setP n (w.heap.size,0)) vs)::fsS (fS K (ρ.setP n (w.heap.size,0))) (vs.map .v) (aag (ρ.setP n (w.heap.size,0)) vs))++dS K (ρ.setP n (w.heap.size,0)) Z H F) h:=⟨k1,k2,a',e',hp,ajp hq'⟩
  obtain ⟨j1,j2,a'',e'',g1,g2⟩:=aan.1 s6
  exact ⟨j1,j2,a'',e'',⟨_,by simpa [Env.setP] using g1⟩,g2⟩
 ·cases h
theorem ayM {o:Oper} {T:TypeId} {vs:List V} {n':Nat} {H':KT.H K} {v:V} (ho:o.op=.alloc T) (hz:av6 P T=some vs) (h:aHJ K R n Z H vs=some (n',H',v)) (hn:nx n' H' v):aeZ K P nt B W o R n Z H nx:=by
 refine aAO h hn fun F ρ a w s =>?_
 obtain ⟨d,op,ty,ps,af,g⟩:=o
 simp only at ho
 subst ho
 simp only [av6,Option.map_eq_some_iff] at hz
 obtain ⟨z,hz,rfl⟩:=hz
 refine ⟨z.cells,T,?_,?_⟩
 ·simp only [execOp,Instr.alloc]
  rw [aaa (a:=Value.pointer (some ⟨w.heap.size,0,none⟩)) (w':=w.alloc (.cells z.cells T)) (by rw [aaa (amo hz)]; exact aaa (ask T z))]
  rfl
 ·rw [aaT,List.map_map]
  have:(aav ρ ∘ aCp)=id:=by funext x; exact ajv ρ x
  rw [this,List.map_id]
theorem aCK {o:Oper} {T:TypeId} {x:Operand} {u:V} {n':Nat} {H':KT.H K} {v:V} (ho:o.op=.box T x) (hx:evO R x=some u) (hs:(aaF u).all (scV H)=true) (h:aHJ K R n Z H (aaF u)=some (n',H',v)) (hn:nx n' H' v):aeZ K P nt B W o R n Z H nx:=by
 refine aAO h hn fun F ρ a w s =>?_
 obtain ⟨d,op,ty,ps,af,g⟩:=o
 simp only at ho
 subst ho
 have ex:=(aaI (ρ:=ρ) hx).eval s.regs
 refine ⟨(aav ρ u).cells,T,?_,(anx hs s.sat).1⟩
 simp only [execOp,ex,Instr.box]
 rw [aaa (a:=Value.pointer (some ⟨w.heap.size,0,none⟩)) (w':=w.alloc (.cells (aav ρ u).cells T)) (by rw [aaa (ask T _)]; rfl)]
 rfl
end
def aov {T:Nat→Type} (c c':Nat) (xs:List (T c)):Option (List (T c')):=if h:c=c' then some (h▸xs) else none
def aBU {T:Nat→Type} (c c':Nat) (xs:List (List (T c))):Option (List (List (T c'))):=if h:c=c' then some (h▸xs) else none
theorem aBT {T:Nat→Type} {c c':Nat} {xs:List (List (T c))} {ys:List (List (T c'))} (h:aBU c c' xs=some ys):∃ e:c=c',ys=e▸xs:=by
 unfold aBU at h
 split at h
 ·rename_i e; cases h; exact ⟨e,rfl⟩
 ·cases h
theorem ahr {T:Nat→Type} {c c':Nat} {xs:List (T c)} {ys:List (T c')} (h:aov c c' xs=some ys):∃ e:c=c',ys=e▸xs:=by
 unfold aov at h
 split at h
 ·rename_i e; cases h; exact ⟨e,rfl⟩
 ·cases h
def aHw {T:Nat→Type} (c c':Nat) (m:Int→Option (T c)):Option (Int→Option (T c')):=if h:c=c' then some (h▸m) else none
theorem aEm {T:Nat→Type} {c c':Nat} {m:Int→Option (T c)} {m':Int→Option (T c')} (h:aHw c c' m=some m'):∃ e:c=c',m'=e▸m:=by
 unfold aHw at h
 split at h
 ·rename_i e; cases h; exact ⟨e,rfl⟩
 ·cases h
def anA {α β:Type} (h:α=β) (xs:List α):List β:=(congrArg List h)▸xs
theorem afJ {α β:Type} (h:α=β) (xs:List α):anA h xs=xs.map (fun x =>h▸x):=by subst h; simp [anA]
def oB:V→Bool
 | .ifc _ _ =>true
 | .ptr _ _ =>true
 | .sl _ =>true
 | .c u =>adY u
 | _ =>false
theorem aKN {ρ:Env} {v:V} (h:oB v=true):adY (aav ρ v)=true:=by
 cases v<;>first | rfl | (cases h; done) | exact h
section
variable (K:KT)
def aKs (own:KT.H K→(c:Nat)→List (Fd K.T K.M)→Option (K.T c×KT.H K)) (H:KT.H K) (e:Fl K.T K.M) (v:V):Option (Fl K.T K.M×KT.H K) :=
 match e with
 | .i k _ =>match alp v with
  | some (k',x,_) =>match asS k' k with
   | true =>some (.i k x,H)
   | false =>none
  | none =>none
 | .b _ =>match at2 v with
  | some x =>some (.b x,H)
  | none =>none
 | .c _ =>none
 | .ro c _ =>match v with
  | .sl id =>match get H id with
   | some (.ro c' xs) =>match aov c' c xs with
    | some ys =>some (.ro c ys,H)
    | none =>none
   | some (.row c' xs) =>match aov c' c xs with
    | some ys =>match K.pl c' && Nat.blt 0 (K.sz c') with
     | true =>some (.ro c ys,(id,.ro c' xs)::del H id)
     | false =>none
    | none =>none
   | _ =>none
  | .c (.slice none 0 0) =>some (.ro c [],H)
  | _ =>none
 | .rr c _ =>match v with
  | .sl id =>match get H id with
   | some (.rr c' xs) =>match aBU c' c xs with
    | some ys =>some (.rr c ys,H)
    | none =>none
   | some (.row c' xs) =>match K.ls c c' with
    | some h =>some (.rr c (anA h.down xs),(id,.rr c (anA h.down xs))::del H id)
    | none =>none
   | _ =>none
  | .c (.slice none 0 0) =>some (.rr c [],H)
  | _ =>none
 | .row c _ =>match v with
  | .sl id =>match get H id with
   | some (.row c' xs) =>match aov c' c xs with
    | some ys =>some (.row c ys,del H id)
    | none =>none
   | some (.hole c' xs i o u) =>match aov c' c xs with
    | some ys =>match (K.vw c (atL (K.df c) ys i))[o]? with
     | some (.own c2 _) =>match u with
      | .ptr id2 p =>match p with
       | 0 =>match get (del H id) id2 with
        | some (.cells fs) =>match own (del (del H id) id2) c2 fs with
         | some (y,H') =>match K.bk c ((K.vw c (atL (K.df c) ys i)).set o (.own c2 y)) with
          | some x' =>some (.row c (ys.set i.toNat x'),H')
          | none =>none
         | none =>none
        | _ =>none
       | _ =>none
      | _ =>none
     | some (.mach _) =>match u with
      | .mc id2 =>match get (del H id) id2 with
       | some (.mach m) =>match K.bk c ((K.vw c (atL (K.df c) ys i)).set o (.mach m)) with
        | some x' =>some (.row c (ys.set i.toNat x'),del (del H id) id2)
        | none =>none
       | _ =>none
      | _ =>none
     | _ =>none
    | none =>none
   | _ =>none
  | .c (.slice none 0 0) =>some (.row c [],H)
  | _ =>none
 | .own c _ =>match v with
  | .ptr id o =>match o with
   | 0 =>match get H id with
    | some (.cells fs) =>match own (del H id) c fs with
     | some (x,H') =>some (.own c x,H')
     | none =>none
    | _ =>none
   | _ =>none
  | _ =>none
 | .o =>match oB v with
  | true =>some (.o,H)
  | false =>none
 | .mp c ag _ =>match v with
  | .mc id =>match get H id with
   | some (.mp c' ag' m) =>match ag' == ag with
    | true =>match aHw c' c m with
     | some m' =>some (.mp c ag m',del H id)
     | none =>none
    | false =>none
   | _ =>none
  | _ =>none
 | .mach _ =>match v with
  | .mc id =>match get H id with
   | some (.mach m) =>some (.mach m,del H id)
   | _ =>none
  | .c .nilIface =>some (.mach K.nilM,H)
  | .ifc t v =>match v with
   | .ptr id o =>match o with
    | 0 =>match K.kd t with
     | some c =>match get H id with
      | some (.cells fs) =>match own (del H id) c fs with
       | some (x,H') =>match K.mkM c x with
        | some m =>some (.mach m,H')
        | none =>none
       | none =>none
      | _ =>none
     | none =>none
    | _ =>none
   | _ =>none
  | _ =>none
def av4 (a:KT.H K→Fl K.T K.M→V→Option (Fl K.T K.M×KT.H K)):KT.H K→List (Fl K.T K.M)→List (Fd K.T K.M)→Option (List (Fl K.T K.M)×KT.H K)
 | H,[],[] =>some ([],H)
 | H,e::es,.f x::fs =>match av4 a H es fs with
  | some (l,H') =>some (x::l,H')
  | none =>none
 | H,e::es,.v v::fs =>match a H e v with
  | some (x,H') =>match av4 a H' es fs with
   | some (l,H'') =>some (x::l,H'')
   | none =>none
  | none =>none
 | _,_,_ =>none
def aKu:Nat→KT.H K→(c:Nat)→List (Fd K.T K.M)→Option (K.T c×KT.H K)
 | 0,_,_,_ =>none
 | f+1,H,c,fs =>match av4 K (aKs K (aKu f)) H (K.vw c (K.df c)) fs with
  | some (l,H') =>match K.bk c l with
   | some x =>some (x,H')
   | none =>none
  | none =>none
def depth:Nat:=9
abbrev asm:KT.H K→Fl K.T K.M→V→Option (Fl K.T K.M×KT.H K):=aKs K (aKu K depth)
end
section
variable {K:KT} {ρ:Env}
theorem aqL:∀ {l:List (Fl K.T K.M)} {vs:List Value} {L:List aad} {h:Hp},akp l=true→ab1 (fsS (pcS K) l vs++L) h→vs=l.map flV∧ab1 L h
 | [],[],_,_,_,s =>⟨rfl,s⟩
 | f::l,v::vs,L,h,hp,s =>by
  obtain ⟨k1,k2,a,e,hA,hL⟩:=s
  have hd:=Ent.drop h (show ab1 (pcS K f v::(fsS (pcS K) l vs++L)) h from ⟨k1,k2,a,e,hA,hL⟩)
  rw [aaJ] at hA
  cases f<;>simp only [akp,Bool.false_eq_true] at hp
  ·obtain ⟨h1,h2⟩:=aqL hp hd
   exact ⟨by rw [List.map_cons,← h1]; congr 1,h2⟩
  ·obtain ⟨h1,h2⟩:=aqL hp hd
   exact ⟨by rw [List.map_cons,← h1]; congr 1,h2⟩
 | [],_::_,_,_,_,⟨_,_,_,_,hf,_⟩ =>hf.elim
 | _::_,[],_,_,_,⟨_,_,_,_,hf,_⟩ =>hf.elim
theorem asd {c:Nat} (hc:K.pl c=true):∀ {xs:List (K.T c)} {vss:List (List Value)} {L:List aad} {h:Hp},ab1 (acB K (pcS K) c xs vss++L) h→vss=xs.map (afF K c)∧ab1 L h
 | [],[],_,_,s =>⟨rfl,s⟩
 | x::xs,vs::vss,L,h,s =>by
  have s':ab1 (fsS (pcS K) (K.vw c x) vs++(acB K (pcS K) c xs vss++L)) h:=by simpa [acB] using s
  obtain ⟨h1,h2⟩:=aqL (K.pl_ok c hc x) s'
  obtain ⟨h3,h4⟩:=asd hc h2
  exact ⟨by rw [List.map_cons,← h3,h1]; rfl,h4⟩
 | [],_::_,_,_,⟨_,_,_,_,hf,_⟩ =>hf.elim
 | _::_,[],_,_,⟨_,_,_,_,hf,_⟩ =>hf.elim
theorem akg {B:Nat} {w:World} {H:KT.H K} {X:List aad} {id c:Nat} {xs:List (K.T c)} (s:Sat B w (dH K ρ H++X)) (h:get H id=some (.row c xs)∨get H id=some (.ro c xs)):aav ρ (.sl id)=.slice (ρ.s id).a xs.length (ρ.s id).c:=by
 rcases h with h | h
 ·rw [aav,ajl (H:=H) (m:=xs.length) (by unfold aA0; rw [h]) s]
 ·rw [aav,ajl (H:=H) (m:=xs.length) (by unfold aA0; rw [h]) s]
theorem axA {B:Nat} {w:World} {c:Nat} {xs:List (K.T c)} {A:Option Addr} {cap:Nat} {L:List aad} (hc:K.pl c=true) (hz:0<K.sz c) (s:Sat B w (rwS K c xs A cap::L)):Sat B w (roS (afF K c) (K.sz c) A cap xs::L):=by
 obtain ⟨h,Hh,k1,k2,a,e,h1,hL⟩:=s
 rw [adO] at h1
 obtain ⟨vss,q1,q2,a',e',g1,g2⟩:=h1
 have g3:ab1 (acB K (pcS K) c xs vss++[]) q2:=by simpa using g2
 obtain ⟨rfl,_⟩:=asd hc g3
 have s2:Sat B w (afQ A xs.length cap (K.sz c) (xs.flatMap (afF K c))::L):=by
  refine ⟨h,Hh,k1,k2,a,e,?_,hL⟩
  rw [← List.flatMap_def] at g1
  rw [e']
  obtain ⟨r1,r2,r3,r4⟩:=g1
  refine ⟨r1,r2,r3,r4.imp id ?_⟩
  rintro ⟨b,o,spare,hA,hs,hp⟩
  exact ⟨b,o,spare,hA,hs,fun i v hi =>by unfold adr; rw [hp i v hi]⟩
 exact auG hz (fun x =>by unfold afF; rw [List.length_map,K.sz_ok]) rfl B w s2
theorem auD {B:Nat} {w:World} {c c':Nat} {hc:PLift (K.T c'=List (K.T c))} (h:K.ls c c'=some hc):∀ {xs:List (K.T c')} {vss:List (List Value)} {L:List aad},Sat B w (acB K (pcS K) c' xs vss++L) →
  ∃ ps:List (Option Addr×Nat),(vss.flatten.length=xs.length∧∀ (i:Nat) ys,(anA hc.down xs)[i]?=some ys→∃ a,ps[i]?=some a∧vss.flatten[i]?=some (.slice a.1 ys.length a.2)) ∧
   Sat B w (afN (fun u =>∀ (i:Nat) ys a,(anA hc.down xs)[i]?=some ys→ps[i]?=some a→Sl (afF K c) (K.sz c) u u.heap.size a.1 ys∧ys.length≤a.2)::L)
 | [],[],L,s =>⟨[],⟨rfl,fun i ys hi =>by rw [afJ] at hi; cases hi⟩,s.imp fun k hk =>(aq5.trans (Ent.cons (aet fun _ _ i ys a hi =>by rw [afJ] at hi; cases hi) Ent.refl)) k hk⟩
 | x::xs,vs::vss,L,s =>by
  have s':Sat B w (fsS (pcS K) (K.vw c' x) vs++(acB K (pcS K) c' xs vss++L)):=s.imp fun k hk =>by simpa [acB] using hk
  have hro:∃ v A cap,vs=[v]∧v=.slice A (hc.down▸x:List (K.T c)).length cap∧Sat B w (roS (afF K c) (K.sz c) A cap (hc.down▸x)::(acB K (pcS K) c' xs vss++L)):=by
   rcases K.ls_ok _ _ _ h x with hv | ⟨hv,hpl,hsz⟩
   ·rw [hv] at s'
    match vs,s' with
    | [],s' =>obtain ⟨_,_,_,_,_,_,hf,_⟩:=s'; exact hf.elim
    | _::_::_,s' =>obtain ⟨_,_,_,_,_,_,_,_,_,_,_,hf,_⟩:=s'; exact hf.elim
    | [v],s' =>
     obtain ⟨k,Hk,k1,k2,a,e,h1,h2⟩:=(show Sat B w (pcS K (.ro c (hc.down▸x)) v::(acB K (pcS K) c' xs vss++L)) from s')
     rw [aaJ] at h1
     obtain ⟨A,cap,hv',hro⟩:=h1
     exact ⟨v,A,cap,rfl,hv',k,Hk,k1,k2,a,e,hro,h2⟩
   ·rw [hv] at s'
    match vs,s' with
    | [],s' =>obtain ⟨_,_,_,_,_,_,hf,_⟩:=s'; exact hf.elim
    | _::_::_,s' =>obtain ⟨_,_,_,_,_,_,_,_,_,_,_,hf,_⟩:=s'; exact hf.elim
    | [v],s' =>
     obtain ⟨k,Hk,k1,k2,a,e,h1,h2⟩:=(show Sat B w (pcS K (.row c (hc.down▸x)) v::(acB K (pcS K) c' xs vss++L)) from s')
     rw [aaJ] at h1
     obtain ⟨A,cap,hv',hro⟩:=h1
     exact ⟨v,A,cap,rfl,hv',axA hpl hsz ⟨k,Hk,k1,k2,a,e,hro,h2⟩⟩
  obtain ⟨v,A,cap,rfl,rfl,s0⟩:=hro
  have s1:Sat B w (acB K (pcS K) c' xs vss++(roS (afF K c) (K.sz c) A cap (hc.down▸x)::L)):=s0.imp fun k hk =>abZ (List.perm_middle (l₁:=acB K (pcS K) c' xs vss)).symm hk
  obtain ⟨ps,⟨g1,g2⟩,s2⟩:=auD h s1
  refine ⟨(A,cap)::ps,⟨by simp [g1],fun i ys hi =>?_⟩,?_⟩
  ·rw [afJ] at hi g2
   cases i with
   | zero =>simp at hi; subst hi; exact ⟨_,rfl,rfl⟩
   | succ i =>exact g2 i ys (by simpa using hi)
  ·refine s2.imp fun k hk =>aaO (aet fun u hu i ys a hi ha =>?_) (ayd k hk)
   rw [afJ] at hi hu
   cases i with
   | zero =>simp at hi ha; subst hi ha; exact hu.2
   | succ i =>exact hu.1 i ys a (by simpa using hi) (by simpa using ha)
 | [],_::_,_,⟨_,_,_,_,_,_,hf,_⟩ =>hf.elim
 | _::_,[],_,⟨_,_,_,_,_,_,hf,_⟩ =>hf.elim
theorem aIt {B:Nat} {w:World} {c c':Nat} {hc:PLift (K.T c'=List (K.T c))} (h:K.ls c c'=some hc) {xs:List (K.T c')} {A:Option Addr} {cap:Nat} {L:List aad} (s:Sat B w (rwS K c' xs A cap::L)) :
  ∃ ps:List (Option Addr×Nat),Sat B w (afN (fun u =>((anA hc.down xs).length≤9223372036854775807∧(anA hc.down xs).length≤cap) ∧
   ∀ (i:Nat) ys,(anA hc.down xs)[i]?=some ys→∃ a,ps[i]?=some a∧(Sl (afF K c) (K.sz c) u u.heap.size a.1 ys∧ys.length≤a.2)∧∃ b o,A=some ⟨b,o,none⟩∧b<u.heap.size∧u.cell? ⟨b,o+i,none⟩=some (.slice a.1 ys.length a.2))::L):=by
 obtain ⟨k,Hk,k1,k2,a,e,h1,hL⟩:=s
 rw [adO] at h1
 obtain ⟨vss,q1,q2,a',e',g1,g2⟩:=h1
 have hs0:ab1 ((afQ A xs.length cap (K.sz c') vss.flatten::acB K (pcS K) c' xs vss)++L) k:=aan.2 ⟨k1,k2,a,e,⟨q1,q2,a',e',g1,g2⟩,hL⟩
 have hs1:ab1 (acB K (pcS K) c' xs vss++(afQ A xs.length cap (K.sz c') vss.flatten::L)) k:=abZ (List.perm_middle (l₁:=acB K (pcS K) c' xs vss)).symm hs0
 obtain ⟨ps,⟨f1,f2⟩,s2⟩:=auD h ⟨k,Hk,hs1⟩
 have hsz:K.sz c'=1∨xs=[]:=by
  cases xs with
  | nil =>exact .inr rfl
  | cons x xs =>left; rw [← K.sz_ok c' x]; rcases K.ls_ok _ _ _ h x with e | ⟨e,_⟩<;>rw [e]<;>rfl
 have s3:Sat B w (afQ A xs.length cap (K.sz c') vss.flatten::afN (fun u =>∀ (i:Nat) ys a,(anA hc.down xs)[i]?=some ys→ps[i]?=some a→Sl (afF K c) (K.sz c) u u.heap.size a.1 ys∧ys.length≤a.2)::L):=s2.imp fun _ =>aqv
 refine ⟨ps,?_⟩
 have hlen:(anA hc.down xs).length=xs.length:=by rw [afJ,List.length_map]
 rcases hsz with hsz | rfl
 ·rw [hsz] at s3
  have s4:Sat B w (afQ A xs.length cap 1 (vss.flatten.flatMap fun v =>[v])::afN (fun u =>∀ (i:Nat) ys a,(anA hc.down xs)[i]?=some ys→ps[i]?=some a→Sl (afF K c) (K.sz c) u u.heap.size a.1 ys∧ys.length≤a.2)::L):=by
   have:(vss.flatten.flatMap fun v =>[v])=vss.flatten:=by simp
   rw [this]; exact s3
  have s5:=auG (enc:=fun v:Value =>[v]) Nat.one_pos (fun _ =>rfl) f1 B w s4
  refine s5.imp fun k hk =>aaO (aet fun u hu =>?_) (ayd k hk)
  obtain ⟨⟨u1,u2⟩,u3⟩:=hu
  refine ⟨⟨by rw [hlen,← f1]; exact u1.1,by rw [hlen,← f1]; exact u2⟩,fun i ys hi =>?_⟩
  obtain ⟨a,ha,hv⟩:=f2 i ys hi
  have hlt:=(List.getElem?_eq_some_iff.1 hv).1
  obtain ⟨b,o,hA,hb,hc'⟩:=u1.at_ hlt
  refine ⟨a,ha,u3 i ys a hi ha,b,o,hA,hb,?_⟩
  have:=hc' i hlt 0 (.slice a.1 ys.length a.2) (by rw [(List.getElem?_eq_some_iff.1 hv).2]; rfl)
  simpa using this
 ·refine s3.imp fun k hk =>aaO (aet fun u hu =>⟨⟨by simp [afJ],by simp [afJ]⟩,fun i ys hi =>by rw [afJ] at hi; cases hi⟩) (Ent.drop k hk)
def aHE (K:KT) (a:KT.H K→Fl K.T K.M→V→Option (Fl K.T K.M×KT.H K)):Prop :=
 ∀ H e v fl H',a H e v=some (fl,H')→∀ ρ X B w,Sat B w (dH K ρ H++X)→Sat B w (pcS K fl (aav ρ v)::(dH K ρ H'++X))
def aHD (K:KT) (own:KT.H K→(c:Nat)→List (Fd K.T K.M)→Option (K.T c×KT.H K)):Prop :=
 ∀ H c fs x H',own H c fs=some (x,H')→∀ ρ X vs B w,Sat B w (fsS (fS K ρ) fs vs++(dH K ρ H++X))→Sat B w (fsS (pcS K) (K.vw c x) vs++(dH K ρ H'++X))
theorem abn {B:Nat} {w:World} {p:aad} {L:List aad} (s:Sat B w L) (h:∀ k,p k):Sat B w (p::L):=s.imp fun k hk =>⟨fun _ _ =>none,k,fun _ _ =>.inl rfl,by funext x y; rfl,h _,hk⟩
theorem abl {B:Nat} {w:World} {A A':aad} {L:List aad} (f:∀ h,A h→A' h) (s:Sat B w (A::L)):Sat B w (A'::L):=s.imp fun _ =>aaO f
theorem awE {own:KT.H K→(c:Nat)→List (Fd K.T K.M)→Option (K.T c×KT.H K)} (ho:aHD K own) {H H':KT.H K} {id c:Nat} {fs:List (Fd K.T K.M)} {x:K.T c} (hg:get H id=some (.cells fs)) (h:own (del H id) c fs=some (x,H')) {X:List aad} {B:Nat} {w:World} (s:Sat B w (dH K ρ H++X)) :
  Sat B w (obS K c x (ρ.p id)::(dH K ρ H'++X)):=by
 obtain ⟨vs,s2⟩:=ah4 (s.imp (aaQ (ρ:=ρ) hg))
 have s3:=ho _ _ _ _ _ h ρ (pts (ρ.p id).1 (ρ.p id).2 vs::X) vs B w (s2.perm (by
  show ((pts (ρ.p id).1 (ρ.p id).2 vs::fsS (fS K ρ) fs vs)++(dH K ρ (del H id)++X)).Perm (fsS (fS K ρ) fs vs++(dH K ρ (del H id)++(pts (ρ.p id).1 (ρ.p id).2 vs::X)))
  rw [← List.append_assoc,← List.append_assoc]
  exact (List.perm_middle (l₁:=fsS (fS K ρ) fs vs++dH K ρ (del H id))).symm))
 have s4:Sat B w ((pts (ρ.p id).1 (ρ.p id).2 vs::fsS (pcS K) (K.vw c x) vs)++(dH K ρ H'++X)):=s3.perm (by
  rw [← List.append_assoc,List.cons_append,← List.append_assoc]
  exact List.perm_middle)
 refine s4.imp fun k hk =>?_
 obtain ⟨k1,k2,a,e,g1,g2⟩:=aan.1 hk
 exact ⟨k1,k2,a,e,aog.2 ⟨vs,g1⟩,g2⟩
theorem aB3 {own:KT.H K→(c:Nat)→List (Fd K.T K.M)→Option (K.T c×KT.H K)} (ho:aHD K own):aHE K (aKs K own):=by
 intro H e v fl H' h ρ X B w s
 unfold aKs at h
 split at h
 ·split at h
  ·rename_i hi
   split at h
   ·rename_i hk
    cases h
    obtain rfl:=ah5 hk
    exact abn s fun k =>aaJ.2 (show aav ρ v=_ from agp hi)
   ·cases h
  ·cases h
 ·split at h
  ·rename_i hb; cases h; exact abn s fun k =>aaJ.2 (show aav ρ v=_ from ak2 hb)
  ·cases h
 ·cases h
 ·rename_i c xs0
  split at h
  ·rename_i id
   split at h
   ·rename_i c' xs hg
    split at h
    ·rename_i ys hy
     cases h
     obtain ⟨rfl,rfl⟩:=ahr hy
     have hv:=akg s (.inr hg)
     obtain ⟨h0,H0,t0⟩:=s
     have key:Sat B w (roS (afF K c') (K.sz c') (ρ.s id).a (ρ.s id).c ys::(dH K ρ H++X)):=by
      have:∀ k,ab1 (dH K ρ H++X) k→ab1 (roS (afF K c') (K.sz c') (ρ.s id).a (ρ.s id).c ys::(dH K ρ H++X)) k:=by
       intro k hk
       obtain ⟨j1,j2,a1,e1,⟨_,m2⟩,mL⟩:=aaQ (ρ:=ρ) hg k hk
       obtain ⟨p,hp,hΦ⟩:=m2
       refine ⟨p,k,fun b o =>?_,?_,⟨p,fun b o x hx =>⟨(hp b o x hx).1,hx⟩,hΦ⟩,hk⟩
       ·cases hpb:p b o with
        | none =>exact .inl rfl
        | some x =>
         obtain ⟨⟨v,rfl⟩,h2⟩:=hp b o x hpb
         exact .inr (.inr ⟨v,rfl,by rw [e1]; unfold adr; rw [h2]⟩)
       ·funext b o
        unfold adr
        cases hpb:p b o with
        | none =>rfl
        | some x =>
         obtain ⟨⟨v,rfl⟩,h2⟩:=hp b o x hpb
         rw [e1]; unfold adr; rw [h2]
      exact ⟨h0,H0,this _ t0⟩
     exact abl (fun k hk =>aaJ.2 (show pcW K (obS K) (rwS K) (.ro c' ys) (aav ρ (.sl id)) k from ⟨_,_,hv,hk⟩)) key
    ·cases h
   ·rename_i c' xs hg
    split at h
    ·rename_i ys hy
     split at h
     ·rename_i hpl
      cases h
      obtain ⟨rfl,rfl⟩:=ahr hy
      have hv:=akg s (.inl hg)
      obtain ⟨hh,Hh,k1,k2,a,e,⟨h1,h2⟩,hL⟩:=s.imp (aaQ (ρ:=ρ) hg)
      simp only [Bool.and_eq_true] at hpl
      have s2:Sat B w (rwS K c' ys (ρ.s id).a (ρ.s id).c::(dH K ρ (del H id)++X)):=⟨hh,Hh,k1,k2,a,e,h2,hL⟩
      refine ((axA hpl.1 (Nat.le_of_ble_eq_true hpl.2) s2).imp az1).imp fun k hk =>?_
      exact aaO (fun k hk =>aaJ.2 (show pcW K (obS K) (rwS K) (.ro c' ys) (aav ρ (.sl id)) k from ⟨_,_,hv,hk⟩)) (abz (fun k hk =>aaO (fun k hk =>⟨h1,hk⟩) hk) hk)
     ·cases h
    ·cases h
   ·cases h
  ·cases h
   exact s.imp fun k hk =>by
    have:=aEB (enc:=afF K c) (sz:=K.sz c) (A:=none) (c:=0) k hk
    exact aaO (fun k hk =>aaJ.2 (show pcW K (obS K) (rwS K) (.ro c []) (.slice none 0 0) k from ⟨none,0,rfl,hk⟩)) this
  ·cases h
 ·rename_i c xs0
  split at h
  ·rename_i id
   split at h
   ·rename_i c' xs hg
    split at h
    ·rename_i ys hy
     cases h
     obtain ⟨rfl,rfl⟩:=aBT hy
     have hv:aav ρ (.sl id)=.slice (ρ.s id).a ys.length (ρ.s id).c:=by
      rw [aav,ajl (H:=H) (m:=ys.length) (by unfold aA0; rw [hg]) s]
     obtain ⟨h0,H0,t0⟩:=s
     refine ⟨h0,H0,?_⟩
     obtain ⟨j1,j2,a1,e1,⟨m1,ps,m2⟩,mL⟩:=aaQ (ρ:=ρ) hg h0 t0
     obtain ⟨p,hp,hΦ⟩:=m2
     have hpp:∀ b o x,p b o=some x→(∃ v,x=.look v)∧h0 b o=some x:=fun b o x hx =>⟨(hp b o x hx).1,by rw [e1]; unfold adr; rw [(hp b o x hx).2]⟩
     refine ⟨p,h0,fun b o =>?_,?_,aaJ.2 (show pcW K (obS K) (rwS K) (.rr c' ys) (aav ρ (.sl id)) p from ⟨_,_,hv,ps,p,fun b o x hx =>⟨(hpp b o x hx).1,hx⟩,hΦ⟩),t0⟩
     ·cases hpb:p b o with
      | none =>exact .inl rfl
      | some x =>
       obtain ⟨⟨v,rfl⟩,h2⟩:=hpp b o x hpb
       exact .inr (.inr ⟨v,rfl,h2⟩)
     ·funext b o
      unfold adr
      cases hpb:p b o with
      | none =>rfl
      | some x =>exact (hpp b o x hpb).2
    ·cases h
   ·rename_i c' xs hg
    split at h
    ·rename_i hc hls
     cases h
     have hv:=akg s (.inl hg)
     obtain ⟨hh,Hh,k1,k2,a,e,⟨h1,h2⟩,hL⟩:=s.imp (aaQ (ρ:=ρ) hg)
     have s2:Sat B w (rwS K c' xs (ρ.s id).a (ρ.s id).c::(dH K ρ (del H id)++X)):=⟨hh,Hh,k1,k2,a,e,h2,hL⟩
     obtain ⟨ps,s3⟩:=aIt hls s2
     have hlen:(anA hc.down xs).length=xs.length:=by rw [afJ,List.length_map]
     refine (s3.imp am8).imp fun k hk =>?_
     exact aaO (fun k hk =>aaJ.2 (show pcW K (obS K) (rwS K) (.rr c (anA hc.down xs)) (aav ρ (.sl id)) k from ⟨_,_,by rw [hv,hlen],ps,hk⟩)) (abz (fun k hk =>aaO (fun k hk =>⟨by rw [h1,hlen],ps,hk⟩) hk) hk)
    ·cases h
   ·cases h
  ·cases h
   exact s.imp fun k hk =>by
    refine aaO (fun k hk =>aaJ.2 (show pcW K (obS K) (rwS K) (.rr c []) (.slice none 0 0) k from ⟨none,0,rfl,[],?_⟩)) (aq5 k hk)
    exact aet (fun u _ =>⟨⟨by simp,by simp⟩,fun i ys hi =>by cases hi⟩) k hk
  ·cases h
 ·rename_i c xs0
  split at h
  ·rename_i id
   split at h
   ·rename_i c' xs hg
    split at h
    ·rename_i ys hy
     cases h
     obtain ⟨rfl,rfl⟩:=ahr hy
     have hv:=akg s (.inl hg)
     obtain ⟨hh,Hh,k1,k2,a,e,⟨h1,h2⟩,hL⟩:=s.imp (aaQ (ρ:=ρ) hg)
     exact ⟨hh,Hh,k1,k2,a,e,aaJ.2 (show pcW K (obS K) (rwS K) (.row c' ys) (aav ρ (.sl id)) k1 from ⟨_,_,hv,h2⟩),hL⟩
    ·cases h
   ·rename_i c' xs i o u hg
    split at h
    ·rename_i ys hy
     obtain ⟨rfl,rfl⟩:=ahr hy
     have fin:∀ {f':Fl K.T K.M} {x':K.T c'} {L:List aad},K.bk c' ((K.vw c' (atL (K.df c') ys i)).set o f')=some x'→Sat B w (acq K ρ id (.hole c' ys i o u)::pcS K f' (aav ρ u)::L)→Sat B w (pcS K (.row c' (ys.set i.toNat x')) (aav ρ (.sl id))::L):=by
      intro f' x' L hb s'
      refine abl (fun k hk =>?_) (ay6 (K.bk_ok _ _ _ hb) s')
      exact aaJ.2 (show pcW K (obS K) (rwS K) (.row c' (ys.set i.toNat x')) (aav ρ (.sl id)) k from ⟨(ρ.s id).a,(ρ.s id).c,by rw [aav,hk.1],hk.2⟩)
     have s1:Sat B w (dH K ρ (del H id)++(acq K ρ id (.hole c' ys i o u)::X)):=(s.imp (aaQ (ρ:=ρ) hg)).perm (List.perm_middle (l₁:=dH K ρ (del H id))).symm
     split at h
     ·rename_i c2 y0 _
      split at h
      ·rename_i id2 p
       split at h
       ·split at h
        ·rename_i fs hg2
         split at h
         ·rename_i y H2 hown
          split at h
          ·rename_i x' hb
           cases h
           have s2:=awE ho hg2 hown s1
           have s3:Sat B w (pcS K (.own c2 y) (aav ρ (.ptr id2 0))::(dH K ρ H'++(acq K ρ id (.hole c' ys i o (.ptr id2 0))::X))):=abl (fun k hk =>aaJ.2 (show pcW K (obS K) (rwS K) (.own c2 y) (aav ρ (.ptr id2 0)) k from ⟨ρ.p id2,rfl,hk⟩)) s2
           refine fin hb (s3.perm ?_)
           exact (List.Perm.cons _ (List.perm_middle (l₁:=dH K ρ H'))).trans (List.Perm.swap ..)
          ·cases h
         ·cases h
        ·cases h
       ·cases h
      ·cases h
     ·split at h
      ·rename_i id2
       split at h
       ·rename_i m hg2
        split at h
        ·rename_i x' hb
         cases h
         have s2:=s1.imp (aaQ (ρ:=ρ) hg2)
         refine fin (f':=.mach m) hb (s2.perm ?_)
         exact (List.Perm.cons _ (List.perm_middle (l₁:=dH K ρ (del (del H id) id2)))).trans (List.Perm.swap ..)
        ·cases h
       ·cases h
      ·cases h
     ·cases h
    ·cases h
   ·cases h
  ·cases h
   have hr:∀ k,rwS K c [] none 0 k:=fun k =>adO.2 ⟨[],fun _ _ =>none,k,fun _ _ =>.inl rfl,by funext x y; rfl,axC _ _,trivial⟩
   exact abn s fun k =>aaJ.2 (show pcW K (obS K) (rwS K) (.row c []) (.slice none 0 0) k from ⟨none,0,rfl,hr k⟩)
  ·cases h
 ·rename_i c x0
  split at h
  ·rename_i id o
   split at h
   ·split at h
    ·rename_i fs hg
     split at h
     ·rename_i x H2 hx
      cases h
      have s2:=awE ho hg hx s
      exact abl (fun k hk =>aaJ.2 (show pcW K (obS K) (rwS K) (.own c x) (aav ρ (.ptr id 0)) k from ⟨ρ.p id,rfl,hk⟩)) s2
     ·cases h
    ·cases h
   ·cases h
  ·cases h
 ·split at h
  ·rename_i hb; cases h; exact abn s fun _ =>aaJ.2 (show pcW K (obS K) (rwS K) .o (aav ρ v) _ from aKN hb)
  ·cases h
 ·rename_i c ag m0
  split at h
  ·rename_i id
   split at h
   ·rename_i c' ag' m hg
    split at h
    ·rename_i e0
     split at h
     ·rename_i m' hm
      cases h
      obtain ⟨e,h2⟩:=aEm hm
      have e1:ag'=ag:=eq_of_beq e0
      subst e; subst h2; subst e1
      exact s.imp (aaQ (ρ:=ρ) hg)
     ·cases h
    ·cases h
   ·cases h
  ·cases h
 ·split at h
  ·rename_i id
   split at h
   ·rename_i m hg
    cases h
    exact s.imp (aaQ (ρ:=ρ) hg)
   ·cases h
  ·cases h
   exact abn s fun k =>aaJ.2 (by simp only [pcW,K.nilM_ok]; rfl)
  ·rename_i t v
   split at h
   ·rename_i id o
    split at h
    ·split at h
     ·rename_i c hkd
      split at h
      ·rename_i fs hg
       split at h
       ·rename_i x H2 hx
        split at h
        ·rename_i m hm
         cases h
         have s2:=awE ho hg hx s
         refine abl (fun k hk =>aaJ.2 ?_) s2
         simp only [pcW,K.mkM_ok _ _ _ hm]
         exact ⟨ρ.p id,by rw [K.kd_ok _ _ hkd]; rfl,hk⟩
        ·cases h
       ·cases h
      ·cases h
     ·cases h
    ·cases h
   ·cases h
  ·cases h
theorem ahH {A:List aad}:∀ {L:List aad} {h:Hp},ab1 (L++A) h→ab1 A h
 | [],_,s =>s
 | _::_,h,s =>ahH (Ent.drop h s)
theorem alE {α:Type _} (A B X:List α) (p:α):(A++(B++(p::X))).Perm (p::(A++(B++X))):=by
 rw [← List.append_assoc,← List.append_assoc]; exact List.perm_middle
theorem adq {α:Type _} (A B X:List α):(A++(B++X)).Perm (B++(A++X)):=by
 rw [← List.append_assoc,← List.append_assoc]; exact List.perm_append_comm.append_right _
theorem aaP {B:Nat} {w:World} {L:List aad} {p:Prop} (s:Sat B w ((fun _ =>False)::L)):p:=by
 obtain ⟨_,_,_,_,_,_,hf,_⟩:=s; exact hf.elim
theorem ajF {a:KT.H K→Fl K.T K.M→V→Option (Fl K.T K.M×KT.H K)} (ha:aHE K a):∀ {H:KT.H K} {es:List (Fl K.T K.M)} {fs:List (Fd K.T K.M)} {l:List (Fl K.T K.M)} {H':KT.H K},av4 K a H es fs=some (l,H') →
  ∀ {ρ:Env} {X:List aad} {vs:List Value} {B:Nat} {w:World},Sat B w (fsS (fS K ρ) fs vs++(dH K ρ H++X))→Sat B w (fsS (pcS K) l vs++(dH K ρ H'++X))
 | H,[],[],l,H',h,ρ,X,vs,B,w,s =>by
  cases h
  cases vs with
  | nil =>exact s
  | cons v vs =>exact aaP s
 | H,e::es,.f x::fs,l,H',h,ρ,X,vs,B,w,s =>by
  unfold av4 at h
  split at h
  ·rename_i l' H2 h2
   cases h
   cases vs with
   | nil =>exact aaP s
   | cons v vs =>
    have s1:Sat B w (fsS (fS K ρ) fs vs++(dH K ρ H++(pcS K x v::X))):=s.perm (alE (fsS (fS K ρ) fs vs) (dH K ρ H) X (pcS K x v)).symm
    have s2:=ajF ha h2 s1
    exact s2.perm (alE (fsS (pcS K) l' vs) (dH K ρ H') X (pcS K x v))
  ·cases h
 | H,e::es,.v u::fs,l,H',h,ρ,X,vs,B,w,s =>by
  unfold av4 at h
  split at h
  ·rename_i x H1 h1
   split at h
   ·rename_i l' H2 h2
    cases h
    cases vs with
    | nil =>exact aaP s
    | cons v vs =>
     have hv:v=aav ρ u:=Sat.pure (show Sat B w (aph (v=aav ρ u)::(fsS (fS K ρ) fs vs++(dH K ρ H++X))) from s)
     have s0:Sat B w (fsS (fS K ρ) fs vs++(dH K ρ H++X)):=s.imp Ent.drop
     have s1:=ha _ _ _ _ _ h1 ρ (fsS (fS K ρ) fs vs++X) B w (s0.perm (adq (fsS (fS K ρ) fs vs) (dH K ρ H) X))
     have s2:Sat B w (fsS (fS K ρ) fs vs++(dH K ρ H1++(pcS K x v::X))):=s1.perm (by
      rw [← hv]
      exact (List.Perm.cons _ (adq (dH K ρ H1) (fsS (fS K ρ) fs vs) X)).trans (alE (fsS (fS K ρ) fs vs) (dH K ρ H1) X (pcS K x v)).symm)
     have s3:=ajF ha h2 s2
     exact s3.perm (alE (fsS (pcS K) l' vs) (dH K ρ H') X (pcS K x v))
   ·cases h
  ·cases h
 | _,[],_::_,_,_,h,_,_,_,_,_,_ =>by cases h
 | _,_::_,[],_,_,h,_,_,_,_,_,_ =>by cases h
theorem aB5:∀ f,aHD K (aKu K f)
 | 0 =>fun _ _ _ _ _ h =>by cases h
 | f+1 =>fun H c fs x H' h ρ X vs B w s =>by
  unfold aKu at h
  split at h
  ·rename_i l H2 hl
   split at h
   ·rename_i y hy
    cases h
    have:=ajF (aB3 (aB5 f)) hl s
    rw [K.bk_ok _ _ _ hy]
    exact this
   ·cases h
  ·cases h
theorem arM:aHE K (asm K):=aB3 (aB5 _)
end
theorem aew {sz:Nat}:∀ {vss:List (List Value)},(∀ vs∈vss,vs.length=sz)→vss.flatten.length=vss.length*sz
 | [],_ =>by simp
 | vs::vss,h =>by
  rw [List.flatten_cons,List.length_append,aew (fun v hv =>h v (List.mem_cons_of_mem _ hv)),h vs (List.mem_cons_self ..),List.length_cons,Nat.add_mul]; omega
theorem ajr {sz:Nat}:∀ {vss:List (List Value)} {i o:Nat} {vs us:List Value},(∀ vs∈vss,vs.length=sz)→vss[i]?=some vs→o+us.length≤sz →
  (vss.set i (vs.take o++us++vs.drop (o+us.length))).flatten=vss.flatten.take (i*sz+o)++us++vss.flatten.drop (i*sz+o+us.length)
 | [],i,o,vs,us,_,h,_ =>by cases h
 | ws::vss,0,o,vs,us,hl,h,ho =>by
  simp at h; subst h
  have h0:=hl ws (List.mem_cons_self ..)
  simp only [List.set_cons_zero,List.flatten_cons,Nat.zero_mul,Nat.zero_add]
  rw [List.take_append_of_le_length (by omega),List.drop_append_of_le_length (by omega)]
  simp only [List.append_assoc]
 | ws::vss,i+1,o,vs,us,hl,h,ho =>by
  have h0:=hl ws (List.mem_cons_self ..)
  have ih:=ajr (vss:=vss) (i:=i) (o:=o) (vs:=vs) (us:=us) (fun v hv =>hl v (List.mem_cons_of_mem _ hv)) (by simpa using h) ho
  simp only [List.set_cons_succ,List.flatten_cons]
  rw [ih,show (i+1)*sz+o=ws.length+(i*sz+o) by rw [h0,Nat.add_mul]; omega]
  rw [List.take_length_add_append,Nat.add_assoc ws.length,List.drop_length_add_append]
  simp only [List.append_assoc]
theorem ajq {F:Type} {pc:F→Value→aad}:∀ {a b:List F} {x y:List Value},a.length=x.length→fsS pc (a++b) (x++y)=fsS pc a x++fsS pc b y
 | [],_,[],_,_ =>rfl
 | f::a,b,v::x,y,h =>by simp only [List.cons_append,fsS,ajq (a:=a) (x:=x) (by simpa using h)]
 | [],_,_::_,_,h =>by cases h
 | _::_,_,[],_,h =>by cases h
section
variable {P:Program} {B:Nat} {W:World}
theorem azX {T:TypeId} {v:Value} {b o m c sz i k:Nat} {vs us:List Value} {w:World} {L:List aad} (s:Sat B w (afQ (some ⟨b,o,none⟩) m c sz vs::L)) (hb:Below B W w) (hl:B≤w.heap.size) (hT:P.cellsOf T=k) (hk:us.length=k) (hk0:0<k) (hv:v.cells.toList=us) (ha:us.all adY=true) (hi:i+k≤vs.length) :
  ∃ w',(storeVar T ⟨b,o+i,none⟩ v).run P w=.ok () w'∧Cls B W (afQ (some ⟨b,o,none⟩) m c sz (vs.take i++us++vs.drop (i+k))::L) w':=by
 obtain ⟨h,Hh,k1,k2,ap,e,⟨h1,h2,h3,h4⟩,hM⟩:=s
 rcases h4 with ⟨h4,_⟩ | ⟨b',o',spare,hA,hsp,hp⟩
 ·cases h4
 ·cases hA
  have s':Sat B w (pts b o (vs++spare)::L):=⟨h,Hh,k1,k2,ap,e,hp,hM⟩
  obtain ⟨w',hr,c1,c2,c3⟩:=aoQ (P:=P) (T:=T) (v:=v) (W:=W) (o':=o+i) (i:=i) (k:=k) (us:=us) s' hb hl rfl hT hk hk0 hv ha (by rw [List.length_append]; omega)
  refine ⟨w',hr,c1,c2,c3.imp fun h =>aaO fun h hq =>?_⟩
  have e1:List.take i (vs++spare)++us++List.drop (i+k) (vs++spare)=(vs.take i++us++vs.drop (i+k))++spare:=by
   rw [List.take_append_of_le_length (by omega),List.drop_append_of_le_length (by omega)]
   simp only [List.append_assoc]
  rw [e1] at hq
  refine ⟨?_,h2,h3,.inr ⟨b,o,spare,rfl,hsp,hq⟩⟩
  rw [← h1]; simp only [List.length_append,List.length_take,List.length_drop]; omega
end
section
variable (K:KT)
def aHa (P:Program) (H:KT.H K) (T:TypeId) (x u:V):Option (KT.H K) :=
 match x with
 | .ptr id o =>match get H id with
  | some (.elt j i sz) =>match get H j with
   | some (.row c xs) =>match Nat.beq sz (K.sz c) && Nat.beq (P.cellsOf T) (aaF u).length && Nat.blt 0 (aaF u).length && Nat.ble (o+(aaF u).length) sz && (aaF u).all (scV (del H j)) with
    | true =>match av4 K (asm K) (del H j) (((K.vw c (atL (K.df c) xs i)).drop o).take (aaF u).length) ((aaF u).map .v) with
     | some (l,H1) =>match K.bk c ((K.vw c (atL (K.df c) xs i)).take o++l++(K.vw c (atL (K.df c) xs i)).drop (o+(aaF u).length)) with
      | some x' =>some ((j,.row c (xs.set i.toNat x'))::H1)
      | none =>none
     | none =>none
    | false =>none
   | _ =>none
  | _ =>none
 | _ =>none
end
section
variable {K:KT} {P:Program} {nt n B:Nat} {W:World} {R:aa3} {Z H:KT.H K} {nx:Nat→KT.H K→V→Prop}
theorem ap7 {a:KT.H K→Fl K.T K.M→V→Option (Fl K.T K.M×KT.H K)}:∀ {H:KT.H K} {es:List (Fl K.T K.M)} {fs:List (Fd K.T K.M)} {l:List (Fl K.T K.M)} {H':KT.H K},av4 K a H es fs=some (l,H')→l.length=fs.length∧es.length=fs.length
 | H,[],[],l,H',h =>by cases h; exact ⟨rfl,rfl⟩
 | H,e::es,.f x::fs,l,H',h =>by
  unfold av4 at h
  split at h
  ·rename_i h2; cases h; have:=ap7 h2; simp [this]
  ·cases h
 | H,e::es,.v u::fs,l,H',h =>by
  unfold av4 at h
  split at h
  ·split at h
   ·rename_i h2; cases h; have:=ap7 h2; simp [this]
   ·cases h
  ·cases h
 | _,[],_::_,_,_,h =>by cases h
 | _,_::_,[],_,_,h =>by cases h
theorem awb {o:Oper} {T:TypeId} {x y:Operand} {u v:V} {H':KT.H K} (ho:o.op=.store T x y) (hx:evO R x=some u) (hy:evO R y=some v) (h:aHa K P H T u v=some H') (hn:nx n H' (.c undef)):aeZ K P nt B W o R n Z H nx:=fun F ρ a w s =>by
 obtain ⟨d,op,ty,ps,af,g⟩:=o
 simp only at ho
 subst ho
 have ex:=(aaI (ρ:=ρ) hx).eval s.regs
 have ey:=(aaI (ρ:=ρ) hy).eval s.regs
 unfold aHa at h
 split at h
 ·rename_i id o'
  split at h
  ·rename_i j i sz hel
   split at h
   ·rename_i c xs hg
    split at h
    ·rename_i hB
     split at h
     ·rename_i l H1 hl
      split at h
      ·rename_i x' hbk
       cases h
       simp only [Bool.and_eq_true] at hB
       obtain ⟨⟨⟨⟨b0,b1⟩,b2⟩,b3⟩,b4⟩:=hB
       obtain rfl:=Nat.eq_of_beq_eq_true b0
       have b1':=Nat.eq_of_beq_eq_true b1
       have b2':0<(aaF v).length:=Nat.le_of_ble_eq_true b2
       have b3':=Nat.le_of_ble_eq_true b3
       obtain ⟨hi,b,o2,hA,hp⟩:=avx s.sat hel
       obtain ⟨hlen,vss,h2,h3,s2⟩:=alO s.sat hg
       rw [hlen] at hi
       have hxi:=aff (d:=K.df c) hi
       have hlt:i.toNat<vss.length:=by omega
       have hvs:vss[i.toNat]?=some vss[i.toNat]:=List.getElem?_eq_getElem hlt
       have hvl:=h3 _ (List.getElem_mem hlt)
       rw [hA] at s2
       -- what is stored
       have s3:Sat B w (dH K ρ (del H j)++(afQ (some ⟨b,o2,none⟩) xs.length (ρ.s j).c (K.sz c) vss.flatten::(acB K (pcS K) c xs vss++tl K Z F ρ))):=s2.perm (by
        refine List.Perm.symm ?_
        refine (List.perm_middle (l₁:=dH K ρ (del H j))).trans (List.Perm.cons _ ?_)
        exact adq _ _ _)
       obtain ⟨hcl,hsc⟩:=anx b4 s3
       have hvlen:(aag ρ (aaF v)).length=(aaF v).length:=by rw [aaT]; simp
       have s4:=ajF arM hl (ρ:=ρ) (X:=afQ (some ⟨b,o2,none⟩) xs.length (ρ.s j).c (K.sz c) vss.flatten::(acB K (pcS K) c xs vss++tl K Z F ρ)) (vs:=aag ρ (aaF v)) (s3.imp fun k hk =>ajp hk)
       have s5:Sat B w (afQ (some ⟨b,o2,none⟩) xs.length (ρ.s j).c (K.sz c) vss.flatten::(fsS (pcS K) l (aag ρ (aaF v))++(dH K ρ H1++(acB K (pcS K) c xs vss++tl K Z F ρ)))):=s4.perm (alE _ _ _ _)
       obtain ⟨w',hr,c1,c2,c3⟩:=azX (P:=P) (T:=T) (v:=aav ρ v) (W:=W) (i:=i.toNat*K.sz c+o') (k:=(aaF v).length) (us:=aag ρ (aaF v)) s5 s.below s.lo b1' hvlen b2' hcl hsc (by
        rw [aew h3]
        have:(i.toNat+1)*K.sz c≤vss.length*K.sz c:=Nat.mul_le_mul_right _ hlt
        rw [Nat.add_mul] at this
        omega)
       have:(execOp a.eval ⟨d,.store T x y,ty,ps,af,g⟩).run P w=.ok .skip w':=by
        simp only [execOp,ex,ey,aav,Instr.storeAt,Instr.sureAddr,hp]
        rw [aaa (a:=()) (w':=w') (by
         rw [aaa (a:=(⟨b,o2+i.toNat*K.sz c+o',none⟩:Addr)) (w':=w) rfl]
         rw [Nat.add_assoc]; exact hr)]
        rfl
       rw [this]
       refine ⟨⟨ρ,n,_,.c undef⟩,rfl,⟨aaA.refl _ _,Nat.le_refl _,rfl,hn⟩,c1,c2,?_⟩
       rw [← hvlen] at c3
       rw [← ajr h3 hvs (by omega)] at c3
       -- put together again
       obtain ⟨M,p1,p2⟩:=aiG (pc:=pcS K) hxi hvs
       refine c3.imp fun k hk =>?_
       obtain ⟨k1,k2,a',e',g1,g2⟩:=hk
       have g3:ab1 ((fsS (pcS K) l (aag ρ (aaF v))++(fsS (pcS K) (K.vw c (atL (K.df c) xs i)) vss[i.toNat]++M))++(dH K ρ H1++tl K Z F ρ)) k2:=by
        refine abZ ?_ g2
        rw [List.append_assoc]
        refine List.Perm.append_left _ ?_
        refine (adq _ _ _).trans ?_
        exact p1.append_right _
       have hes:(K.vw c (atL (K.df c) xs i)).length=(vss[i.toNat]).length:=by rw [K.sz_ok,hvl]
       have hol:o'+(aaF v).length≤(K.vw c (atL (K.df c) xs i)).length:=by rw [K.sz_ok]; exact b3'
       have hll:=(ap7 hl).1
       rw [List.length_map] at hll
       -- the old cells' places in three
       have e1:fsS (pcS K) (K.vw c (atL (K.df c) xs i)) vss[i.toNat]=fsS (pcS K) ((K.vw c (atL (K.df c) xs i)).take o') ((vss[i.toNat]).take o')++(fsS (pcS K) (((K.vw c (atL (K.df c) xs i)).drop o').take (aaF v).length) (((vss[i.toNat]).drop o').take (aaF v).length)++fsS (pcS K) ((K.vw c (atL (K.df c) xs i)).drop (o'+(aaF v).length)) ((vss[i.toNat]).drop (o'+(aaF v).length))):=by
        conv =>lhs; rw [← List.take_append_drop o' (K.vw c (atL (K.df c) xs i)),← List.take_append_drop o' (vss[i.toNat]),ajq (by simp [hes])]
        conv =>lhs; arg 2; rw [← List.take_append_drop (aaF v).length ((K.vw c (atL (K.df c) xs i)).drop o'),← List.take_append_drop (aaF v).length ((vss[i.toNat]).drop o'),ajq (by simp [hes]),List.drop_drop,List.drop_drop]
       rw [e1] at g3
       have g4:ab1 ((fsS (pcS K) ((K.vw c (atL (K.df c) xs i)).take o') ((vss[i.toNat]).take o')++(fsS (pcS K) l (aag ρ (aaF v))++(fsS (pcS K) ((K.vw c (atL (K.df c) xs i)).drop (o'+(aaF v).length)) ((vss[i.toNat]).drop (o'+(aaF v).length))++M)))++(dH K ρ H1++tl K Z F ρ)) k2:=by
        have g5:ab1 (fsS (pcS K) (((K.vw c (atL (K.df c) xs i)).drop o').take (aaF v).length) (((vss[i.toNat]).drop o').take (aaF v).length)++((fsS (pcS K) ((K.vw c (atL (K.df c) xs i)).take o') ((vss[i.toNat]).take o')++(fsS (pcS K) l (aag ρ (aaF v))++(fsS (pcS K) ((K.vw c (atL (K.df c) xs i)).drop (o'+(aaF v).length)) ((vss[i.toNat]).drop (o'+(aaF v).length))++M)))++(dH K ρ H1++tl K Z F ρ))) k2:=by
         refine abZ ?_ g3
         simp only [List.append_assoc]
         refine (adq _ _ _).trans ?_
         refine (List.Perm.append_left _ (adq _ _ _)).trans ?_
         exact adq _ _ _
        exact ahH g5
       have e2:fsS (pcS K) (K.vw c x') ((vss[i.toNat]).take o'++aag ρ (aaF v)++(vss[i.toNat]).drop (o'+(aag ρ (aaF v)).length))=fsS (pcS K) ((K.vw c (atL (K.df c) xs i)).take o') ((vss[i.toNat]).take o')++(fsS (pcS K) l (aag ρ (aaF v))++fsS (pcS K) ((K.vw c (atL (K.df c) xs i)).drop (o'+(aaF v).length)) ((vss[i.toNat]).drop (o'+(aaF v).length))):=by
        rw [K.bk_ok _ _ _ hbk,List.append_assoc,List.append_assoc,ajq (by simp [hes]),ajq (by rw [hvlen,hll]),hvlen]
       have g6:ab1 (acB K (pcS K) c (xs.set i.toNat x') (vss.set i.toNat ((vss[i.toNat]).take o'++aag ρ (aaF v)++(vss[i.toNat]).drop (o'+(aag ρ (aaF v)).length)))++(dH K ρ H1++tl K Z F ρ)) k2:=by
        refine abZ (((p2 x' _).append_right _).symm) ?_
        rw [e2]
        simpa only [List.append_assoc] using g4
       have g7:ab1 ((afQ (some ⟨b,o2,none⟩) (xs.set i.toNat x').length (ρ.s j).c (K.sz c) (vss.set i.toNat ((vss[i.toNat]).take o'++aag ρ (aaF v)++(vss[i.toNat]).drop (o'+(aag ρ (aaF v)).length))).flatten::acB K (pcS K) c (xs.set i.toNat x') (vss.set i.toNat ((vss[i.toNat]).take o'++aag ρ (aaF v)++(vss[i.toNat]).drop (o'+(aag ρ (aaF v)).length))))++(dH K ρ H1++tl K Z F ρ)) k:=⟨k1,k2,a',e',by rw [List.length_set]; exact g1,g6⟩
       obtain ⟨j1,j2,a'',e'',q1,q2⟩:=aan.1 g7
       exact ⟨j1,j2,a'',e'',⟨by rw [List.length_set]; exact hlen,adO.2 ⟨_,by rw [hA]; exact q1⟩⟩,q2⟩
      ·cases h
     ·cases h
    ·cases h
   ·cases h
  ·cases h
 ·cases h
end
theorem amz:∀ (us:List Value) (j off:Nat) (cs:Array Value),off+j+us.length≤cs.size →
  ((us.zipIdx j).foldl (fun cs (p:Value×Nat) =>cs.setIfInBounds (off+p.2) p.1) cs).toList=cs.toList.take (off+j)++us++cs.toList.drop (off+j+us.length)
 | [],j,off,cs,_ =>by simp
 | u::us,j,off,cs,h =>by
  simp only [List.length_cons] at h
  simp only [List.zipIdx_cons,List.foldl_cons,List.length_cons]
  rw [amz us (j+1) off _ (by simp; omega)]
  simp only [Array.toList_setIfInBounds]
  have hl:off+j<cs.toList.length:=by simpa using (by omega:off+j<cs.size)
  rw [show off+(j+1)=(off+j)+1 by omega]
  have e1:(cs.toList.set (off+j) u).take (off+j+1)=cs.toList.take (off+j)++[u]:=by
   rw [List.take_succ_eq_append_getElem (by simpa using hl),List.take_set_of_le (Nat.le_refl _)]
   simp
  have e2:(cs.toList.set (off+j) u).drop (off+j+1+us.length)=cs.toList.drop (off+j+(us.length+1)):=by
   rw [List.drop_set_of_lt (by omega)]; congr 1; omega
  rw [e1,e2]; simp
def ay9 {K:KT} (H:KT.H K) (pl:Nat→Option (Nat×Nat)) (cells:List V):List (Nat×V)→Option (List V)
 | [] =>some cells
 | (i,v)::rest =>match pl i with
  | some (off,size) =>match Nat.beq (aaF v).length size && Nat.ble (off+size) cells.length && (aaF v).all (scV H) with
   | true =>ay9 H pl (cells.take off++aaF v++cells.drop (off+size)) rest
   | false =>none
  | none =>none
def aHO (R:aa3):List (Nat×Operand)→Option (List (Nat×V))
 | [] =>some []
 | (i,x)::l =>match evO R x with
  | some v =>match aHO R l with
   | some vs =>some ((i,v)::vs)
   | none =>none
  | none =>none
section
variable {K:KT} {ρ:Env} {B:Nat} {w:World}
theorem atK {R:aa3}:∀ {l:List (Nat×Operand)} {vs:List (Nat×V)},aHO R l=some vs→EvalPs (dR ρ R) l (vs.map fun p =>(p.1,aav ρ p.2))
 | [],vs,h =>by cases h; exact .nil
 | (i,x)::l,vs,h =>by
  unfold aHO at h
  split at h
  ·rename_i hx
   split at h
   ·rename_i hl; cases h; exact .cons (aaI hx) (atK hl)
   ·cases h
  ·cases h
theorem apV {H:KT.H K} {X:List aad} (s:Sat B w (dH K ρ H++X)) {pl:Nat→Option (Nat×Nat)}:∀ {ps:List (Nat×V)} {cells out:List V},ay9 H pl cells ps=some out →
  Instr.fill pl (aag ρ cells).toArray (ps.map fun p =>(p.1,aav ρ p.2))=some (aag ρ out).toArray∧out.length=cells.length
 | [],cells,out,h =>by cases h; exact ⟨rfl,rfl⟩
 | (i,v)::ps,cells,out,h =>by
  unfold ay9 at h
  split at h
  ·rename_i off size hp
   split at h
   ·rename_i hB
    simp only [Bool.and_eq_true] at hB
    obtain ⟨⟨b1,b2⟩,b3⟩:=hB
    have b1':=Nat.eq_of_beq_eq_true b1
    have b2':=Nat.le_of_ble_eq_true b2
    obtain ⟨hc,_⟩:=anx b3 s
    obtain ⟨ih,hl⟩:=apV s h
    have hlen:(aag ρ cells).length=cells.length:=by rw [aaT]; simp
    have hcl:(aav ρ v).cells.size=size:=by
     have:=congrArg List.length hc
     rw [aaT] at this; simpa [b1'] using this
    refine ⟨?_,by rw [hl]; simp; omega⟩
    rw [List.map_cons,Instr.fill]
    simp only [hp,hcl]
    rw [if_neg (by simp [hlen]; omega)]
    rw [← ih]
    congr 1
    apply Array.ext'
    rw [← Array.foldl_toList,Array.toList_zipIdx,hc]
    have:=amz (aag ρ (aaF v)) 0 off (aag ρ cells).toArray (by rw [aaT (aaF v)]; simp [hlen,b1']; omega)
    rw [Nat.add_zero] at this
    rw [this]
    simp [aaT,b1']
   ·cases h
  ·cases h
end
def plS (P:Program):List Field→Option (List (Nat×Nat))
 | [] =>some []
 | f::l =>match P.info? f.type with
  | some i =>match plS P l with
   | some r =>some ((f.offset,i.size)::r)
   | none =>none
  | none =>none
theorem aAm {P:Program} {w:World}:∀ {l:List Field} {r:List (Nat×Nat)},plS P l=some r→(l.mapM (m:=Sem) fun f =>do pure (f.offset,← sizeOf f.type)).run P w=.ok r w
 | [],r,h =>by cases h; rfl
 | f::l,r,h =>by
  unfold plS at h
  split at h
  ·rename_i i hi
   split at h
   ·rename_i r' hr
    cases h
    rw [List.mapM_cons]
    have h1:(sizeOf f.type).run P w=.ok i.size w:=by unfold sizeOf; rw [aaa (acz hi)]; rfl
    rw [aaa (a:=(f.offset,i.size)) (w':=w) (by rw [aaa h1]; rfl),aaa (aAm hr)]
    rfl
   ·cases h
  ·cases h
section
variable (K:KT)
def aLc (P:Program) (R:aa3) (H:KT.H K) (T:TypeId) (parts:List (Nat×Operand)):Option V :=
 match P.underlying T with
 | some (.struct fs) =>match av6 P T with
  | some z =>match plS P fs.toList with
   | some pl =>match aHO R parts with
    | some ps =>(ay9 H (fun i =>pl[i]?) z ps).map .agg
    | none =>none
   | none =>none
  | none =>none
 | some (.array _ E) =>match av6 P T with
  | some z =>match P.info? E with
   | some inf =>match aHO R parts with
    | some ps =>(ay9 H (fun i =>some (i*inf.size,inf.size)) z ps).map .agg
    | none =>none
   | none =>none
  | none =>none
 | _ =>none
def aKi (P:Program) (R:aa3) (H:KT.H K) (T:TypeId) (m:Nat) (parts:List (Nat×Operand)):Option (Nat×List V) :=
 match P.underlying T with
 | some (.slice E) =>match P.info? E with
  | some inf =>match inf.zero with
   | some z =>match aHO R parts with
    | some ps =>match Nat.ble (m*inf.size) 16777216 && Nat.blt 0 (m*inf.size) with
     | true =>(ay9 H (fun i =>some (i*inf.size,inf.size)) (((Array.range (m*inf.size)).map (z.cells[· % z.cells.size]!)).toList.map aCp) ps).map fun l =>(inf.size,l)
     | false =>none
    | none =>none
   | none =>none
  | none =>none
 | _ =>none
end
section
variable {K:KT} {P:Program} {ρ:Env} {B:Nat} {w:World}
theorem arz (l:List Value):aag ρ (l.map aCp)=l:=by
 rw [aaT,List.map_map]
 have:(aav ρ ∘ aCp)=id:=by funext x; exact ajv ρ x
 rw [this,List.map_id]
theorem aHi {R:aa3} {H:KT.H K} {X:List aad} {T:TypeId} {parts:Array (Nat×Operand)} {v:V} {nt:Nat} {a:Act} (s:Sat B w (dH K ρ H++X)) (r:Regs nt a (dR ρ R)) (h:aLc K P R H T parts.toList=some v) :
  ∀ w',(Instr.build T (parts.map fun (i,x) =>(i,a.eval x))).run P w'=.ok (aav ρ v) w':=by
 intro w'
 unfold aLc at h
 split at h
 ·rename_i fs hU
  split at h
  ·rename_i z hz
   split at h
   ·rename_i pl hpl
    split at h
    ·rename_i ps hps
     simp only [Option.map_eq_some_iff] at h
     obtain ⟨l,hl,rfl⟩:=h
     simp only [av6,Option.map_eq_some_iff] at hz
     obtain ⟨zv,hz,rfl⟩:=hz
     have hf:=(apV s hl).1
     rw [arz] at hf
     have e:=(atK (ρ:=ρ) hps).eval r
     unfold Instr.build
     rw [aaa (amo hz),aaa (acx hU)]
     simp only
     have hfs:fs=fs.toList.toArray:=by simp
     rw [hfs]
     simp only [List.mapM_toArray]
     rw [aaa (a:=pl.toArray) (w':=w') (by rw [map_eq_pure_bind]; exact aaa (aAm hpl))]
     simp only [Array.toList_map,e]
     have hf':Instr.fill (fun i =>pl.toArray[i]?) zv.cells (ps.map fun p =>(p.1,aav ρ p.2))=some (aag ρ l).toArray:=by simpa using hf
     rw [hf']; rfl
    ·cases h
   ·cases h
  ·cases h
 ·rename_i E hU
  split at h
  ·rename_i z hz
   split at h
   ·rename_i inf hi
    split at h
    ·rename_i ps hps
     simp only [Option.map_eq_some_iff] at h
     obtain ⟨l,hl,rfl⟩:=h
     simp only [av6,Option.map_eq_some_iff] at hz
     obtain ⟨zv,hz,rfl⟩:=hz
     have hf:=(apV s hl).1
     rw [arz] at hf
     have e:=(atK (ρ:=ρ) hps).eval r
     unfold Instr.build
     rw [aaa (amo hz),aaa (acx hU)]
     simp only
     have h1:(sizeOf E).run P w'=.ok inf.size w':=by unfold sizeOf; rw [aaa (acz hi)]; rfl
     rw [aaa h1]
     simp only [Array.toList_map,e]
     have hf':Instr.fill (fun i =>some (i*inf.size,inf.size)) zv.cells (ps.map fun p =>(p.1,aav ρ p.2))=some (aag ρ l).toArray:=by simpa using hf
     rw [hf']; rfl
    ·cases h
   ·cases h
  ·cases h
 ·cases h
theorem aBr {R:aa3} {H:KT.H K} {X:List aad} {T:TypeId} {m sz:Nat} {parts:Array (Nat×Operand)} {l:List V} {nt:Nat} {a:Act} (s:Sat B w (dH K ρ H++X)) (r:Regs nt a (dR ρ R)) (h:aKi K P R H T m parts.toList=some (sz,l)) :
  ∃ E,l.length=m*sz∧m≤maxLen∧(Instr.buildSlice T m (parts.map fun (i,x) =>(i,a.eval x))).run P w=.ok (.slice (some ⟨w.heap.size,0,none⟩) m m) (w.alloc (.cells (aag ρ l).toArray E)):=by
 unfold aKi at h
 split at h
 ·rename_i E hU
  split at h
  ·rename_i inf hi
   split at h
   ·rename_i z hz
    split at h
    ·rename_i ps hps
     split at h
     ·rename_i hB
      simp only [Option.map_eq_some_iff,Prod.mk.injEq] at h
      obtain ⟨l',hl,rfl,rfl⟩:=h
      simp only [Bool.and_eq_true] at hB
      have b1:=Nat.le_of_ble_eq_true hB.1
      have b2:0<m*inf.size:=Nat.le_of_ble_eq_true hB.2
      obtain ⟨hf,hlen⟩:=apV s hl
      rw [arz] at hf
      have e:=(atK (ρ:=ρ) hps).eval r
      have hs0:0<inf.size:=Nat.pos_of_mul_pos_left b2
      refine ⟨E,by rw [hlen]; simp,?_,?_⟩
      ·have:m*1≤m*inf.size:=Nat.mul_le_mul_left _ hs0
       unfold maxLen; omega
      ·unfold Instr.buildSlice
       rw [aaa (acx hU)]
       simp only
       have h1:(sizeOf E).run P w=.ok inf.size w:=by unfold sizeOf; rw [aaa (acz hi)]; rfl
       rw [aaa h1]
       rw [if_neg (by omega)]
       have h2:(zeroValue E).run P w=.ok z w:=by unfold zeroValue; rw [aaa (acz hi)]; simp only [hz]; rfl
       simp only [Array.toList_map,e]
       have hf':Instr.fill (fun i =>some (i*inf.size,inf.size)) ((Array.range (m*inf.size)).map (z.cells[· % z.cells.size]!)) (ps.map fun p =>(p.1,aav ρ p.2))=some (aag ρ l').toArray:=by
        rw [← hf,Array.toArray_toList]
       simp only [if_neg (show ¬ m*inf.size=0 by omega)]
       rw [aaa h2]
       show (Sem.run P _ w)=_
       simp only [pure_bind,hf']
       unfold newRow newObj
       simp [Sem.run,World.alloc_eq]
     ·cases h
    ·cases h
   ·cases h
  ·cases h
 ·cases h
end
end
end Go.Proofs.YteapeojalliebaaGreat
