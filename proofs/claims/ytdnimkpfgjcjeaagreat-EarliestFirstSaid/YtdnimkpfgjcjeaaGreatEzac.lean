/- Evaluation by itself,5: reading. No program occurs here. Evaluation by itself,6: loads,stores,memory of its own. No program occurs here. Evaluation by itself,7: a region that draws its order: what is read may be read first,if it is set aside for the rest of the region. No program occurs here. Evaluation by itself: what lies open is put together again. No program occurs here. Evaluation by itself: rows written,elements pointed at. No program occurs here. -/
import Derived.Test.YtdnimkpfgjcjeaaGreatEzab
set_option linter.all false
namespace Go.Proofs.YtdnimkpfgjcjeaaGreat
section
open Go Go.RowKit
structure Nx (K:KT) where
 ρ:Env
 n:Nat
 H:KT.H K
 v:V
def tl (K:KT) (Z:KT.H K) (F:aad) (ρ:Env):List aad:=dH K ρ Z++[F]
theorem acX {K:KT} {Z:KT.H K} {F:aad} {n:Nat} (h:afi Z≤n) {ρ ρ':Env} (ha:aay n ρ ρ'):tl K Z F ρ=tl K Z F ρ':=by unfold tl; rw [abU ha Z h]
abbrev dS (K:KT) (ρ:Env) (Z H:KT.H K) (F:aad):List aad:=dH K ρ H++tl K Z F ρ
def aed (K:KT) (P:Program) (nt B:Nat) (W:World) (o:Oper) (R:aaX) (n:Nat) (Z H:KT.H K) (nx:Nat→KT.H K→V→Prop):Prop :=
 ∀ F ρ a w,Sta nt B W (dR ρ R) (dS K ρ Z H F) a w→aj2 P (fun (x:Nx K) w' =>(aay n ρ x.ρ∧n≤x.n∧dR x.ρ R=dR ρ R∧nx x.n x.H x.v)∧Cls B W (dS K x.ρ Z x.H F) w') (fun x =>aat x.ρ x.v) ((execOp a.eval o).run P w)
section
variable {K:KT} {r:Option Nat} {P:Program} {ops:Array Oper} {Q:Exit→Act→World→Prop} {nt n B:Nat} {W:World} {R:aaX} {Z H:KT.H K} {ρ:Env} {o:Oper} {rest:List Oper} {nx:Nat→KT.H K→V→Prop} {F:aad}
theorem aD6 (h:aed K P nt B W o R n Z H nx) (hd:aEj nt o.dst=true) (hg:ajZ ops (dR ρ R) o.guard true) (k:∀ ρ' n' H' v,aay n ρ ρ'→n≤n'→nx n' H' v→RT r P ops Q nt B W rest (dR ρ' (arQ R o.dst v)) (dS K ρ' Z H' F)):RT r P ops Q nt B W (o::rest) (dR ρ R) (dS K ρ Z H F):=fun a w s =>by
 unfold wpListIn
 rw [if_pos (hg.spec s.regs)]
 refine ate (h F ρ a w s) fun x w' ⟨⟨ha,hn,hR,hx⟩,hw'⟩ =>?_
 have s1:Regs nt a (dR x.ρ R):=hR▸s.regs
 exact k x.ρ x.n x.H x.v ha hn hx _ _ (hw'.st (afv hd a s1))
def azj (H:KT.H K) (id:Nat):Option Nat:=match get H id with
 | some (.row _ xs) =>some xs.length
 | some (.ro _ xs) =>some xs.length
 | some (.rr _ xs) =>some xs.length
 | some (.hole _ xs _ _ _) =>some xs.length
 | some (.gap _ xs _ _) =>some xs.length
 | _ =>none
theorem ait {H:KT.H K} {id m:Nat} (h:azj H id=some m) {w:World} {X:List aad} (s:Sat B w (dH K ρ H++X)):(ρ.s id).n=m:=by
 unfold azj at h
 split at h
 ·rename_i hg
  cases h
  obtain ⟨hh,Hh,k1,k2,a,e,⟨h1',h2⟩,hL⟩:=s.imp (aaT (ρ:=ρ) hg)
  exact h1'
 ·rename_i hg
  cases h
  obtain ⟨hh,Hh,k1,k2,a,e,⟨h1',h2⟩,hL⟩:=s.imp (aaT (ρ:=ρ) hg)
  exact h1'
 ·rename_i hg
  cases h
  obtain ⟨hh,Hh,k1,k2,a,e,⟨h1',h2⟩,hL⟩:=s.imp (aaT (ρ:=ρ) hg)
  exact h1'
 ·rename_i hg
  cases h
  obtain ⟨hh,Hh,k1,k2,a,e,⟨h1',h2⟩,hL⟩:=s.imp (aaT (ρ:=ρ) hg)
  exact h1'
 ·rename_i hg
  cases h
  obtain ⟨hh,Hh,k1,k2,a,e,⟨_,_,_,_,_,_,⟨_,h1',_⟩,_⟩,hL⟩:=s.imp (aaT (ρ:=ρ) hg)
  exact h1'
 ·cases h
end
def atL {α:Type} (d:α) (xs:List α) (i:Int):α:=(xs[i.toNat]?).getD d
def scF {T:Nat→Type} {M:Type}:Fl T M→Option V
 | .i k x =>some (.i k x)
 | .b x =>some (.b x)
 | .c u =>some (aAO u)
 | _ =>none
section
variable {K:KT} {ρ:Env}
theorem aDZ {f:Fl K.T K.M} {v:V} (h:scF f=some v):aat ρ v=flV f:=by
 cases f<;>simp [scF] at h<;>subst h<;>first | rfl | exact aiE ..
theorem aGn {f:Fl K.T K.M} {v:V} {u:Value} {k:Hp} (h:scF f=some v) (hp:pcS K f u k):u=aat ρ v:=by
 rw [aaB] at hp
 cases f<;>simp [scF] at h<;>subst h<;>simp only [aat,aiE]<;>exact hp
theorem akm {vss:List (List Value)} {sz:Nat} (hl:∀ vs∈vss,vs.length=sz):∀ {i o:Nat} {vs:List Value} {v:Value},vss[i]?=some vs→vs[o]?=some v→vss.flatten[i*sz+o]?=some v:=by
 induction vss with
 | nil =>intro i o vs v h; cases h
 | cons us vss ih =>
  intro i o vs v h h'
  have h0:=hl us (List.mem_cons_self ..)
  cases i with
  | zero =>
   simp at h; subst h
   rw [List.flatten_cons,Nat.zero_mul,Nat.zero_add,List.getElem?_append_left (List.getElem?_eq_some_iff.1 h').1]; exact h'
  | succ i =>
   rw [List.flatten_cons,List.getElem?_append_right (by rw [h0,Nat.add_mul]; omega)]
   have:=ih (fun vs h =>hl vs (List.mem_cons_of_mem _ h)) (i:=i) (by simpa using h) h'
   rw [← this]; congr 1; rw [h0,Nat.add_mul]; omega
theorem ahJ {pc:Fl K.T K.M→Value→aad} {c:Nat}:∀ {xs:List (K.T c)} {vss:List (List Value)} {i:Nat} {x:K.T c} {vs:List Value},xs[i]?=some x→vss[i]?=some vs →
  ∃ M,(abY K pc c xs vss).Perm (fsS pc (K.vw c x) vs++M)∧∀ x' vs',(abY K pc c (xs.set i x') (vss.set i vs')).Perm (fsS pc (K.vw c x') vs'++M)
 | [],_,_,_,_,h,_ =>by cases h
 | _::_,[],_,_,_,_,h =>by cases h
 | g::xs,u::vss,0,x,vs,h,h' =>by
  simp at h h'; subst h h'
  exact ⟨abY K pc c xs vss,.refl _,fun _ _ =>.refl _⟩
 | g::xs,u::vss,i+1,x,vs,h,h' =>by
  obtain ⟨M,h1,h2⟩:=ahJ (pc:=pc) (xs:=xs) (vss:=vss) (i:=i) (by simpa using h) (by simpa using h')
  refine ⟨fsS pc (K.vw c g) u++M,?_,fun x' vs' =>?_⟩
  ·exact (h1.append_left _).trans (by rw [← List.append_assoc,← List.append_assoc]; exact List.perm_append_comm.append_right _)
  ·exact ((h2 x' vs').append_left _).trans (by rw [← List.append_assoc,← List.append_assoc]; exact List.perm_append_comm.append_right _)
theorem awc {pc:Fl K.T K.M→Value→aad} {c:Nat}:∀ {xs:List (K.T c)} {vss:List (List Value)} {L:List aad} {h:Hp},abC (abY K pc c xs vss++L) h→xs.length=vss.length∧∀ (i:Nat) (x:K.T c) (vs:List Value),xs[i]?=some x→vss[i]?=some vs→(K.vw c x).length=vs.length
 | [],[],_,_,_ =>⟨rfl,fun _ _ _ h =>by cases h⟩
 | x::xs,vs::vss,L,h,s =>by
  have s':abC (fsS pc (K.vw c x) vs++(abY K pc c xs vss++L)) h:=by simpa [abY] using s
  have h1:=avz s'
  obtain ⟨k1,k2,a,e,_,s2⟩:=aal.1 s'
  obtain ⟨h2,h3⟩:=awc s2
  refine ⟨by simp [h2],fun i y us hy hu =>?_⟩
  cases i with
  | zero =>simp at hy hu; subst hy hu; exact h1
  | succ i =>exact h3 i y us (by simpa using hy) (by simpa using hu)
 | [],_::_,_,_,⟨_,_,_,_,hf,_⟩ =>hf.elim
 | _::_,[],_,_,⟨_,_,_,_,hf,_⟩ =>hf.elim
theorem aD3 {pc:Fl K.T K.M→Value→aad} {c:Nat} {xs:List (K.T c)} {vss:List (List Value)} {L:List aad} {h:Hp} (s:abC (abY K pc c xs vss++L) h):xs.length=vss.length∧∀ vs∈vss,vs.length=K.sz c:=by
 obtain ⟨h1,h2⟩:=awc s
 refine ⟨h1,fun vs hv =>?_⟩
 obtain ⟨i,hi⟩:=List.mem_iff_getElem?.1 hv
 have hlt:i<xs.length:=by rw [h1]; exact (List.getElem?_eq_some_iff.1 hi).1
 rw [← h2 i _ vs (List.getElem?_eq_getElem hlt) hi,K.sz_ok]
theorem aiU {B:Nat} {w:World} {H:KT.H K} {X:List aad} {j c:Nat} {xs:List (K.T c)} (s:Sat B w (dH K ρ H++X)) (hg:get H j=some (.row c xs)) :
  (ρ.s j).n=xs.length∧∃ vss:List (List Value),xs.length=vss.length∧(∀ vs∈vss,vs.length=K.sz c)∧Sat B w (aef (ρ.s j).a xs.length (ρ.s j).c (K.sz c) vss.flatten::(abY K (pcS K) c xs vss++(dH K ρ (del H j)++X))):=by
 obtain ⟨h,Hh,k1,k2,a,e,⟨h1',h2⟩,hL⟩:=s.imp (aaT (ρ:=ρ) hg)
 rw [acL] at h2
 obtain ⟨vss,s2⟩:=h2
 have s3:abC ((aef (ρ.s j).a xs.length (ρ.s j).c (K.sz c) vss.flatten::abY K (pcS K) c xs vss)++(dH K ρ (del H j)++X)) h:=aal.2 ⟨k1,k2,a,e,s2,hL⟩
 have h3:xs.length=vss.length∧∀ vs∈vss,vs.length=K.sz c:=by
  obtain ⟨q1,q2,a',e',_,hq⟩:=s2
  exact aD3 (L:=[]) (by simpa using hq)
 exact ⟨h1',vss,h3.1,h3.2,h,Hh,s3⟩
theorem aup {B:Nat} {w:World} {H:KT.H K} {X:List aad} {id j sz:Nat} {i:Int} (s:Sat B w (dH K ρ H++X)) (hg:get H id=some (.elt j i sz)):avX ρ id j sz i:=(s.imp (aaT (ρ:=ρ) hg)).pure
theorem aeL {α:Type} {d:α} {xs:List α} {i:Int} (h:0≤i∧i<(xs.length:Int)):xs[i.toNat]?=some (atL d xs i):=by
 have:i.toNat<xs.length:=by omega
 simp [atL,this]
theorem awf {B:Nat} {w:World} {H:KT.H K} {X:List aad} {id j c o:Nat} {i:Int} {xs:List (K.T c)} {f:Fl K.T K.M} (s:Sat B w (dH K ρ H++X)) (hg:get H j=some (.row c xs)) (he:avX ρ id j (K.sz c) i) (hf:(K.vw c (atL (K.df c) xs i))[o]?=some f) :
  ∃ v,w.cell? ⟨(ρ.p id).1,(ρ.p id).2+o,none⟩=some v∧∃ L,Sat B w (pcS K f v::L)∧Ent (pcS K f v::L) (acI K ρ j (.row c xs)::(dH K ρ (del H j)++X)):=by
 obtain ⟨h1',vss,h2,h3,s2⟩:=aiU s hg
 obtain ⟨hi,b,o',hA,hp⟩:=he
 rw [h1'] at hi
 have hx:=aeL (d:=K.df c) hi
 have hlt:i.toNat<vss.length:=by omega
 have hvs:vss[i.toNat]?=some vss[i.toNat]:=List.getElem?_eq_getElem hlt
 have hsz:=h3 _ (List.getElem_mem hlt)
 have hol:o<vss[i.toNat].length:=by rw [hsz,← K.sz_ok c (atL (K.df c) xs i)]; exact (List.getElem?_eq_some_iff.1 hf).1
 have hov:(vss[i.toNat])[o]?=some (vss[i.toNat])[o]:=List.getElem?_eq_getElem hol
 have hfl:=akm h3 hvs hov
 obtain ⟨r1,r2,r3,r4⟩:=aeB s2 (List.mem_cons_self ..)
 refine ⟨(vss[i.toNat])[o],?_,?_⟩
 ·rcases r4 with ⟨r4,_⟩ | ⟨b2,o2,r4,r5⟩
  ·rw [r4] at hA; cases hA
  ·rw [r4] at hA
   cases hA
   rw [hp]
   have:=r5 _ _ hfl
   rw [← Nat.add_assoc] at this
   exact this
 ·obtain ⟨M,p1,_⟩:=ahJ (pc:=pcS K) hx hvs
  have p2:=(akj (pc:=pcS K) hf hov).1
  have p3:=p1.trans (p2.append_right M)
  refine ⟨_,ayl s2 p3,fun k hk =>?_⟩
  have s5:abC ((aef (ρ.s j).a xs.length (ρ.s j).c (K.sz c) vss.flatten::abY K (pcS K) c xs vss)++(dH K ρ (del H j)++X)) k:=by
   refine abE ?_ hk
   exact (List.Perm.swap ..).trans (List.Perm.cons _ (p3.symm.append_right _))
  obtain ⟨j1,j2,a'',e'',g1,g2⟩:=aal.1 s5
  exact ⟨j1,j2,a'',e'',⟨h1',acL.2 ⟨vss,g1⟩⟩,g2⟩
theorem aEd {B:Nat} {w:World} {H:KT.H K} {X:List aad} {id j c o:Nat} {i:Int} {xs:List (K.T c)} {f:Fl K.T K.M} (s:Sat B w (dH K ρ H++X)) (hg:get H j=some (.ro c xs)) (he:avX ρ id j (K.sz c) i) (hf:(K.vw c (atL (K.df c) xs i))[o]?=some f) :
  w.cell? ⟨(ρ.p id).1,(ρ.p id).2+o,none⟩=some (flV f):=by
 obtain ⟨h,Hh,k1,k2,a,e,⟨h1',h2⟩,hL⟩:=s.imp (aaT (ρ:=ρ) hg)
 have s2:Sat B w (roS (aeR K c) (K.sz c) (ρ.s j).a (ρ.s j).c xs::(dH K ρ (del H j)++X)):=⟨h,Hh,k1,k2,a,e,h2,hL⟩
 obtain ⟨hi,b,o',hA,hp⟩:=he
 rw [h1'] at hi
 have hlt:i.toNat<xs.length:=by omega
 obtain ⟨b2,o2,hA2,_,hc⟩:=(atz s2 (List.mem_cons_self ..)).1.at_ hlt
 rw [hA] at hA2
 cases hA2
 have hx:=aeL (d:=K.df c) hi
 have he2:xs[i.toNat]=atL (K.df c) xs i:=(List.getElem?_eq_some_iff.1 hx).2
 have:=hc i.toNat hlt o (flV f) (by rw [he2]; unfold aeR; rw [List.getElem?_map,hf]; rfl)
 rw [hp]; exact this
end
section
variable {K:KT} {ρ:Env}
theorem azu {B:Nat} {w:World} {H:KT.H K} {X:Env→List aad} {id j c o n:Nat} {i:Int} {xs:List (K.T c)} {f:Fl K.T K.M} {V0:V} {ch:Ch K.T K.M} (hop:opF K.vw n (.f f)=(V0,some ch)) (hn:afi H≤n) (hX:∀ ρ',aay n ρ ρ'→X ρ=X ρ')
  (s:Sat B w (dH K ρ H++X ρ)) (hg:get H j=some (.row c xs)) (he:avX ρ id j (K.sz c) i) (hf:(K.vw c (atL (K.df c) xs i))[o]?=some f) :
  ∃ ρ',aay n ρ ρ'∧Sat B w (dH K ρ' ((n,ch)::(j,.hole c xs i o V0)::del H j)++X ρ')∧w.cell? ⟨(ρ.p id).1,(ρ.p id).2+o,none⟩=some (aat ρ' V0):=by
 obtain ⟨h1',vss,h2,h3,s2⟩:=aiU s hg
 obtain ⟨hi,b,o',hA,hp⟩:=he
 rw [h1'] at hi
 have hx:=aeL (d:=K.df c) hi
 have hlt:i.toNat<vss.length:=by omega
 have hvs:vss[i.toNat]?=some vss[i.toNat]:=List.getElem?_eq_getElem hlt
 have hsz:=h3 _ (List.getElem_mem hlt)
 have hol:o<vss[i.toNat].length:=by rw [hsz,← K.sz_ok c (atL (K.df c) xs i)]; exact (List.getElem?_eq_some_iff.1 hf).1
 have hov:(vss[i.toNat])[o]?=some (vss[i.toNat])[o]:=List.getElem?_eq_getElem hol
 have hfl:=akm h3 hvs hov
 obtain ⟨r1,r2,r3,r4⟩:=aeB s2 (List.mem_cons_self ..)
 have hcell:w.cell? ⟨(ρ.p id).1,(ρ.p id).2+o,none⟩=some (vss[i.toNat])[o]:=by
  rcases r4 with ⟨r4,_⟩ | ⟨b2,o2,r4,r5⟩
  ·rw [r4] at hA; cases hA
  ·rw [r4] at hA
   cases hA
   rw [hp]
   have:=r5 _ _ hfl
   rw [← Nat.add_assoc] at this
   exact this
 obtain ⟨M,p1,p1'⟩:=ahJ (pc:=pcS K) hx hvs
 have p2:=(akj (pc:=pcS K) hf hov).1
 have p3:=p1.trans (p2.append_right M)
 have s3:Sat B w (pcS K f (vss[i.toNat])[o]::((aef (ρ.s j).a xs.length (ρ.s j).c (K.sz c) vss.flatten::(fsS (pcS K) ((K.vw c (atL (K.df c) xs i)).eraseIdx o) ((vss[i.toNat]).eraseIdx o)++M))++(dH K ρ (del H j)++X ρ))):=s2.perm (by
  refine (List.Perm.cons _ (p3.append_right _)).trans ?_
  exact List.Perm.swap ..)
 obtain ⟨hh,Hh,k1,k2,a,e,hA1,hL⟩:=s3
 have hfF:fS K ρ (.f f) (vss[i.toNat])[o] k1:=hA1
 obtain ⟨ρ',ha,hv,hd⟩:=ay7 (Nat.zero_le _) hfF
 rw [hop] at hv hd
 simp only at hv hd
 refine ⟨ρ',ha,?_,by rw [hcell,hv]⟩
 have hgt:=aie hg
 have hjn:j<n:=Nat.lt_of_lt_of_le hgt.1 hn
 obtain ⟨q1,q2,a',e',g1,g2⟩:=aal.1 hL
 rw [abU ha (del H j) (Nat.le_trans aeT hn),hX _ ha] at g2
 refine ⟨hh,Hh,k1,k2,a,e,hd,q1,q2,a',e',⟨by rw [← (ha j hjn).2.1]; exact h1',?_⟩,g2⟩
 rw [← (ha j hjn).2.1]
 refine ⟨atL (K.df c) xs i,vss,vss[i.toNat],M,⟨hx,hvs,by rw [← hv]; exact hov⟩,fun x' =>?_,(List.getElem?_eq_some_iff.1 hf).1,g1⟩
 have:=p1' x' vss[i.toNat]
 rw [arE hvs] at this
 exact this
theorem axE {B:Nat} {w:World} {id c o:Nat} {i:Int} {xs:List (K.T c)} {u:V} {f':Fl K.T K.M} {x':K.T c} {L:List aad} (hx':K.vw c x'=(K.vw c (atL (K.df c) xs i)).set o f')
  (s:Sat B w (acI K ρ id (.hole c xs i o u)::pcS K f' (aat ρ u)::L)):Sat B w ((fun h =>(ρ.s id).n=(xs.set i.toNat x').length∧rwS K c (xs.set i.toNat x') (ρ.s id).a (ρ.s id).c h)::L):=by
 obtain ⟨hh,Hh,k1,k2,a,e,⟨h1,x,vss,vs,N,⟨hx,hvs,hov⟩,hp,ho,hst⟩,hL⟩:=s
 obtain rfl:x=atL (K.df c) xs i:=by unfold atL; rw [hx]; rfl
 have s2:abC ((aef (ρ.s id).a xs.length (ρ.s id).c (K.sz c) vss.flatten::(fsS (pcS K) ((K.vw c (atL (K.df c) xs i)).eraseIdx o) (vs.eraseIdx o)++N))++(pcS K f' (aat ρ u)::L)) hh:=aal.2 ⟨k1,k2,a,e,hst,hL⟩
 have hf:(K.vw c (atL (K.df c) xs i))[o]?=some (K.vw c (atL (K.df c) xs i))[o]:=List.getElem?_eq_getElem ho
 have p2:=(akj (pc:=pcS K) hf hov).2 f' (aat ρ u)
 rw [arE hov,← hx'] at p2
 have s3:abC ((aef (ρ.s id).a xs.length (ρ.s id).c (K.sz c) vss.flatten::abY K (pcS K) c (xs.set i.toNat x') vss)++L) hh:=by
  refine abE ?_ s2
  refine List.Perm.cons _ ?_
  refine List.Perm.trans ?_ (((hp x').trans (p2.append_right N)).symm.append_right L)
  simp only [List.cons_append,List.append_assoc]
  exact (List.perm_middle (l₁:=fsS (pcS K) ((K.vw c (atL (K.df c) xs i)).eraseIdx o) (vs.eraseIdx o)++N)).trans (by rw [List.append_assoc])
 obtain ⟨j1,j2,a'',e'',g1,g2⟩:=aal.1 s3
 refine ⟨hh,Hh,j1,j2,a'',e'',⟨by rw [List.length_set]; exact h1,acL.2 ⟨vss,?_⟩⟩,g2⟩
 rw [List.length_set]; exact g1
end
section
variable (K:KT)
def opn (n:Nat) (H:KT.H K) (id o:Nat):Option (Bool×KT.H K×V) :=
 match get H id with
 | some (.cells fs) =>match fs[o]? with
  | some f =>match opF K.vw n f with
   | (v,none) =>some (false,H,v)
   | (v,some c) =>match Nat.ble (afi H) n with
    | true =>some (true,(n,c)::(id,.cells (fs.set o (.v v)))::del H id,v)
    | false =>none
  | none =>none
 | some (.elt j i sz) =>match get H j with
  | some (.row c xs) =>match Nat.beq sz (K.sz c) with
   | true =>match (K.vw c (atL (K.df c) xs i))[o]? with
    | some (.ro c' ys) =>match Nat.ble (afi H) n with
     | true =>some (true,(n,.ro c' ys)::(j,.row c xs)::del H j,.sl n)
     | false =>none
    | some f =>match scF f with
     | some v =>some (false,H,v)
     | none =>match opF K.vw n (.f f) with
      | (v,some ch) =>match Nat.ble (afi H) n with
       | true =>some (true,(n,ch)::(j,.hole c xs i o v)::del H j,v)
       | false =>none
      | (_,none) =>none
    | none =>none
   | false =>none
  | some (.ro c xs) =>match Nat.beq sz (K.sz c) with
   | true =>match (K.vw c (atL (K.df c) xs i))[o]? with
    | some f =>(scF f).map fun v =>(false,H,v)
    | none =>none
   | false =>none
  | some (.rr c xss) =>match Nat.beq sz 1 && Nat.beq o 0 && Nat.ble (afi H) n with
   | true =>some (true,(n,.ro c (atL [] xss i))::(j,.rr c xss)::del H j,.sl n)
   | false =>none
  | _ =>none
 | _ =>none
end
section
variable {K:KT}
theorem atY {n:Nat} {H H':KT.H K} {id o:Nat} {v:V} {ch:Bool} (h:opn K n H id o=some (ch,H',v)) {ρ:Env} {B:Nat} {w:World} {X:Env→List aad} (hX:ch=true→∀ ρ',aay n ρ ρ'→X ρ=X ρ') (s:Sat B w (dH K ρ H++X ρ)) :
  ∃ ρ',(aay n ρ ρ'∧(ch=false→ρ'=ρ))∧Sat B w (dH K ρ' H'++X ρ')∧w.cell? ⟨(ρ.p id).1,(ρ.p id).2+o,none⟩=some (aat ρ' v):=by
 unfold opn at h
 split at h
 ·rename_i fs hg
  split at h
  ·rename_i f hf
   obtain ⟨vs,u,hu,hl,s2,hc⟩:=aCG s hg hf
   have p1:=(akj (pc:=fS K ρ) hf hu).1
   have s3:=ayl s2 p1
   split at h
   ·rename_i v' hop
    cases h
    obtain ⟨hh,Hh,k1,k2,a,e,hA,hL⟩:=s3
    -- a value that brings nothing with it
    have key:u=aat ρ v:=by
     cases f with
     | v x =>cases hop; exact hA
     | f x =>
      have hp:pcS K x u k1:=hA
      cases x<;>simp only [opF,Prod.mk.injEq,reduceCtorEq,and_false,and_true] at hop<;>subst hop<;>rw [aaB] at hp<;>simp only [aat,aiE]<;>exact hp
    exact ⟨ρ,⟨aay.refl _ _,fun _ =>rfl⟩,s,by rw [hc,key]⟩
   ·rename_i v' c hop
    split at h
    ·rename_i hb
     cases h
     have hn:afi H≤n:=Nat.le_of_ble_eq_true hb
     have hgt:=aie hg
     obtain ⟨hh,Hh,k1,k2,a,e,hA,hL⟩:=s3
     have hft:aCQ f≤n:=Nat.le_trans (ax2 hf) (Nat.le_trans hgt.2 hn)
     obtain ⟨ρ',ha,hv,hd⟩:=ay7 hft hA
     rw [hop] at hv hd
     simp only at hv hd
     refine ⟨ρ',⟨ha,fun e =>by cases e⟩,?_,by rw [hc,hv]⟩
     have hid:id<n:=Nat.lt_of_lt_of_le hgt.1 hn
     have e0:=ap9 ha (fs.eraseIdx o) (vs.eraseIdx o) (Nat.le_trans ape (Nat.le_trans hgt.2 hn))
     have e1:dH K ρ (del H id)=dH K ρ' (del H id):=abU ha _ (Nat.le_trans aeT hn)
     rw [e0,e1,(ha id hid).1,hX rfl _ ha] at hL
     have p2:=(akj (pc:=fS K ρ') hf hu).2 (.v v) u
     rw [arE hu] at p2
     refine ⟨hh,Hh,k1,k2,a,e,hd,?_⟩
     obtain ⟨q1,q2,a',e',hp,hq⟩:=hL
     have s6:abC ((pts (ρ'.p id).1 (ρ'.p id).2 vs::fsS (fS K ρ') (fs.set o (.v v)) vs)++(dH K ρ' (del H id)++X ρ')) k2:=by
      refine ⟨q1,q2,a',e',hp,abE (p2.symm.append_right _) ?_⟩
      exact (aqf (L:=fsS (fS K ρ') (fs.eraseIdx o) (vs.eraseIdx o)++(dH K ρ' (del H id)++X ρ')) hv) q2 hq
     obtain ⟨j1,j2,a'',e'',g1,g2⟩:=aal.1 s6
     exact ⟨j1,j2,a'',e'',⟨vs,g1⟩,g2⟩
    ·cases h
  ·cases h
 ·rename_i j i sz hj0
  have he0:=aup s hj0
  split at h
  ·rename_i c xs hj
   split at h
   ·rename_i hsz
    obtain rfl:=Nat.eq_of_beq_eq_true hsz
    have he:=he0
    split at h
    ·rename_i c' ys hf
     split at h
     ·rename_i hb
      cases h
      have hn:afi H≤n:=Nat.le_of_ble_eq_true hb
      obtain ⟨u,hc,L,s2,back⟩:=awf s hj he hf
      have hgt:=aie hj
      have hjn:j<n:=Nat.lt_of_lt_of_le hgt.1 hn
      obtain ⟨hh,Hh,k1,k2,a,e,hA,hL⟩:=s2
      have hA':=hA
      rw [aaB] at hA'
      obtain ⟨A,cap,hu,hro⟩:=hA'
      have s3:Sat B w (roS (aeR K c') (K.sz c') A cap ys::L):=⟨hh,Hh,k1,k2,a,e,hro,hL⟩
      have ha:=ab4 ρ n ⟨A,ys.length,cap⟩
      have e1:dH K ρ (del H j)=dH K (ρ.setS n ⟨A,ys.length,cap⟩) (del H j):=abU ha _ (Nat.le_trans aeT hn)
      have e2:acI K ρ j (.row c xs)=acI K (ρ.setS n ⟨A,ys.length,cap⟩) j (.row c xs):=aei ha hjn _ (Nat.le_trans hgt.2 hn)
      refine ⟨_,⟨ha,fun e =>by cases e⟩,?_,by rw [hc,hu]; simp [aat,Env.setS]⟩
      have s4:=s3.imp ayw
      refine s4.imp fun k hk =>?_
      refine aaM (fun k hk =>?_) (abi (fun k hk =>?_) hk)
      ·exact ⟨by simp [Env.setS],by simpa [Env.setS] using hk⟩
      ·have fold:∀ q:Hp,roS (aeR K c') (K.sz c') A cap ys q→pcS K (.ro c' ys) u q:=fun q hq =>(aaB (K:=K)).2 (show pcW K (obS K) (rwS K) (.ro c' ys) u q from ⟨A,cap,hu,hq⟩)
       have:=back k (aaM fold hk)
       rw [e1,e2,hX rfl _ ha] at this
       exact this
     ·cases h
    ·rename_i f _ hf
     split at h
     ·rename_i v' hv
      cases h
      obtain ⟨u,hc,L,⟨hh,Hh,k1,k2,a,e,hA,hL⟩,_⟩:=awf s hj he hf
      exact ⟨ρ,⟨aay.refl _ _,fun _ =>rfl⟩,s,by rw [hc,aGn hv hA]⟩
     ·split at h
      ·rename_i v' ch' hop
       split at h
       ·rename_i hb
        cases h
        obtain ⟨ρ',ha,hs,hc⟩:=azu hop (Nat.le_of_ble_eq_true hb) (hX rfl) s hj he hf
        exact ⟨ρ',⟨ha,fun e =>by cases e⟩,hs,hc⟩
       ·cases h
      ·cases h
    ·cases h
   ·cases h
  ·rename_i c xs hj
   split at h
   ·rename_i hsz
    obtain rfl:=Nat.eq_of_beq_eq_true hsz
    have he:=he0
    split at h
    ·rename_i f hf
     simp only [Option.map_eq_some_iff,Prod.mk.injEq] at h
     obtain ⟨v',hv,rfl,rfl,rfl⟩:=h
     exact ⟨ρ,⟨aay.refl _ _,fun _ =>rfl⟩,s,by rw [aEd s hj he hf,aDZ hv]⟩
    ·cases h
   ·cases h
  ·rename_i c xss hj
   split at h
   ·rename_i hB
    cases h
    simp only [Bool.and_eq_true] at hB
    obtain ⟨⟨b1,b2⟩,b3⟩:=hB
    obtain rfl:=Nat.eq_of_beq_eq_true b1
    obtain rfl:=Nat.eq_of_beq_eq_true b2
    have hn:afi H≤n:=Nat.le_of_ble_eq_true b3
    have hgt:=aie hj
    have hjn:j<n:=Nat.lt_of_lt_of_le hgt.1 hn
    obtain ⟨hi,b,o',hA,hp⟩:=he0
    obtain ⟨hh,Hh,k1,k2,a,e,⟨h1',ps,h2⟩,hL⟩:=s.imp (aaT (ρ:=ρ) hj)
    rw [h1'] at hi
    have hx:=aeL (d:=([]:List (K.T c))) hi
    have s2:Sat B w (ae8 _::(dH K ρ (del H j)++X ρ)):=⟨hh,Hh,k1,k2,a,e,h2,hL⟩
    obtain ⟨q,hq,_,b2,o2,hA2,_,hc⟩:=(ama s2 (List.mem_cons_self ..)).2 _ _ hx
    rw [hA] at hA2
    cases hA2
    have ha:=ab4 ρ n ⟨q.1,(atL [] xss i).length,q.2⟩
    have e1:dH K ρ (del H j)=dH K (ρ.setS n ⟨q.1,(atL [] xss i).length,q.2⟩) (del H j):=abU ha _ (Nat.le_trans aeT hn)
    refine ⟨_,⟨ha,fun e =>by cases e⟩,?_,by rw [hp,Nat.mul_one,Nat.add_zero,hc]; simp [aat,Env.setS]⟩
    have s3:=s2.imp amb
    refine s3.imp fun k hk =>?_
    rw [e1,hX rfl _ ha] at hk
    refine aaM (fun k hk =>?_) (abi (fun k hk =>aaM (fun k hk =>?_) hk) hk)
    ·refine ⟨by simp [Env.setS],?_⟩
     have:=aea (Ψ:=fun u =>Sl (aeR K c) (K.sz c) u u.heap.size q.1 (atL [] xss i)∧(atL [] xss i).length≤q.2) (fun u hu =>by
      obtain ⟨q',hq',hs,_⟩:=hu.2 _ _ hx
      rw [hq] at hq'
      cases hq'
      exact hs) k hk
     have this2:roS (aeR K c) (K.sz c) q.1 q.2 (atL [] xss i) k:=this
     simpa [Env.setS] using this2
    ·have hjn':j≠n:=by omega
     exact ⟨by simpa [Env.setS,hjn'] using h1',ps,by simpa [Env.setS,hjn'] using hk⟩
   ·cases h
  ·cases h
 ·cases h
end
section
variable (K:KT)
def aGO:Nat→Nat→KT.H K→Nat→Nat→Option (Bool×KT.H K×List V)
 | 0,_,H,_,_ =>some (false,H,[])
 | k+1,n,H,id,o =>match opn K n H id o with
  | some (ch,H',v) =>match Nat.ble (aje v) (n+1) with
   | true =>match Nat.blt id n with
    | true =>match aGO k (n+1) H' id (o+1) with
     | some (ch',H'',l) =>some (ch || ch',H'',v::l)
     | none =>none
    | false =>none
   | false =>none
  | none =>none
end
section
variable {K:KT}
theorem ar7:∀ {k n:Nat} {H H':KT.H K} {id o:Nat} {l:List V} {ch:Bool} {ρ:Env} {B:Nat} {w:World} {X:Env→List aad},(ch=true→∀ ρ ρ',aay n ρ ρ'→X ρ=X ρ')→aGO K k n H id o=some (ch,H',l)→Sat B w (dH K ρ H++X ρ) →
  ∃ ρ',(aay n ρ ρ'∧(ch=false→ρ'=ρ))∧Sat B w (dH K ρ' H'++X ρ')∧l.length=k∧∀ j v,(aag ρ' l)[j]?=some v→w.cell? ⟨(ρ.p id).1,(ρ.p id).2+o+j,none⟩=some v
 | 0,n,H,H',id,o,l,ch,ρ,B,w,X,hX,h,s =>by
  cases h
  exact ⟨ρ,⟨aay.refl _ _,fun _ =>rfl⟩,s,rfl,fun j v hj =>by simp [aag] at hj⟩
 | k+1,n,H,H',id,o,l,ch,ρ,B,w,X,hX,h,s =>by
  unfold aGO at h
  split at h
  ·rename_i ch1 H1 v h1
   split at h
   ·rename_i ht
    split at h
    ·rename_i hid
     split at h
     ·rename_i ch2 H2 l2 h2
      cases h
      have ht':aje v≤n+1:=Nat.le_of_ble_eq_true ht
      have hid':id<n:=Nat.le_of_ble_eq_true hid
      obtain ⟨ρ1,⟨a1,e1⟩,s1,c1⟩:=atY h1 (fun hc ρ' =>hX (by rw [hc]; rfl) _ ρ') s
      obtain ⟨ρ2,⟨a2,e2⟩,s2,hl,c2⟩:=ar7 (fun hc ρ ρ' ha =>hX (by rw [hc,Bool.or_true]) _ _ (ha.le (Nat.le_succ n))) h2 s1
      refine ⟨ρ2,⟨a1.trans a2 (Nat.le_succ n),fun hc =>?_⟩,s2,by simp [hl],fun j u hj =>?_⟩
      ·simp only [Bool.or_eq_false_iff] at hc
       rw [e2 hc.2,e1 hc.1]
      ·cases j with
       | zero =>
        simp only [aag,List.getElem?_cons_zero,Option.some.injEq] at hj
        rw [← hj,← abe a2 v ht']
        exact c1
       | succ j =>
        simp only [aag,List.getElem?_cons_succ] at hj
        have:=c2 j u hj
        rw [← (a1 id hid').1] at this
        rw [← this]; congr 2; omega
     ·cases h
    ·cases h
   ·cases h
  ·cases h
end
section
variable (K:KT)
def aIc (P:Program) (R:aaX) (n:Nat) (Z H:KT.H K) (T:TypeId) (x:V):Option (Nat×KT.H K×V) :=
 match x with
 | .ptr id o =>match afs P T with
  | some none =>match opn K n H id o with
   | some (false,H',v) =>some (n,H',v)
   | some (true,H',v) =>match Nat.ble (av6 R) n && Nat.ble (afi Z) n with
    | true =>some (n+1,H',v)
    | false =>none
   | none =>none
  | some (some k) =>match aGO K k n H id o with
   | some (false,H',l) =>some (n,H',.agg l)
   | some (true,H',l) =>match Nat.ble (av6 R) n && Nat.ble (afi Z) n with
    | true =>some (n+k,H',.agg l)
    | false =>none
   | none =>none
  | none =>none
 | _ =>none
end
section
variable {K:KT} {P:Program} {nt n B:Nat} {W:World} {R:aaX} {Z H:KT.H K} {nx:Nat→KT.H K→V→Prop}
theorem ajE {w:World} {b o:Nat} {T:TypeId} {v:Value} (ht:afs P T=some none) (h:w.cell? ⟨b,o,none⟩=some v):(Instr.loadAt T (.pointer (some ⟨b,o,none⟩))).run P w=.ok v w :=
 akf (us:=[v]) ht rfl (fun j u hj =>by
  cases j with
  | zero =>simp at hj; subst hj; exact h
  | succ j =>simp at hj) rfl
theorem atm {o:Oper} {T:TypeId} {x:Operand} {u v:V} {n':Nat} {H':KT.H K} (ho:o.op=.load T x) (hx:evO R x=some u) (h:aIc K P R n Z H T u=some (n',H',v)) (hn:nx n' H' v):aed K P nt B W o R n Z H nx:=fun F ρ a w s =>by
 obtain ⟨d,op,ty,ps,af,g⟩:=o
 simp only at ho
 subst ho
 have ex:=(aaJ (ρ:=ρ) hx).eval s.regs
 unfold aIc at h
 split at h
 ·rename_i id o'
  have fin:∀ (ρ':Env) (vv:V) (nn:Nat) (HH:KT.H K),n≤nn→aay n ρ ρ'→dR ρ' R=dR ρ R→Sat B w (dS K ρ' Z HH F)→nx nn HH vv→(Instr.loadAt T (.pointer (some ⟨(ρ.p id).1,(ρ.p id).2+o',none⟩))).run P w=.ok (aat ρ' vv) w →
    aj2 P (fun (x:Nx K) w' =>(aay n ρ x.ρ∧n≤x.n∧dR x.ρ R=dR ρ R∧nx x.n x.H x.v)∧Cls B W (dS K x.ρ Z x.H F) w') (fun x =>aat x.ρ x.v) ((execOp a.eval ⟨d,.load T x,ty,ps,af,g⟩).run P w):=by
   intro ρ' vv nn HH h1 h2 h3 h4 h5 h6
   have:(execOp a.eval ⟨d,.load T x,ty,ps,af,g⟩).run P w=.ok (.value (aat ρ' vv)) w:=by
    simp only [execOp,ex,aat]
    rw [aaa h6]; rfl
   rw [this]
   exact ⟨⟨ρ',nn,HH,vv⟩,rfl,⟨h2,h1,h3,h5⟩,s.below,s.lo,h4⟩
  split at h
  ·rename_i hT
   split at h
   ·rename_i h1
    cases h
    obtain ⟨ρ',⟨ha,he⟩,s1,hc⟩:=atY (X:=tl K Z F) h1 (fun e =>by cases e) s.sat
    obtain rfl:=he rfl
    exact fin _ _ _ _ (Nat.le_refl _) ha rfl s1 hn (ajE hT hc)
   ·rename_i h1
    split at h
    ·rename_i hR
     cases h
     simp only [Bool.and_eq_true] at hR
     obtain ⟨ρ',⟨ha,he⟩,s1,hc⟩:=atY (X:=tl K Z F) h1 (fun _ ρ' ha =>acX (Nat.le_of_ble_eq_true hR.2) ha) s.sat
     exact fin _ _ _ _ (Nat.le_succ _) ha (abp ha _ (Nat.le_of_ble_eq_true hR.1)).symm s1 hn (ajE hT hc)
    ·cases h
   ·cases h
  ·rename_i k hT
   split at h
   ·rename_i h1
    cases h
    obtain ⟨ρ',⟨ha,he⟩,s1,hl,hc⟩:=ar7 (X:=tl K Z F) (fun e =>by cases e) h1 s.sat
    obtain rfl:=he rfl
    exact fin _ _ _ _ (Nat.le_refl _) ha rfl s1 hn (akf hT (by rw [aaS]; simpa using hl) hc rfl)
   ·rename_i h1
    split at h
    ·rename_i hR
     cases h
     simp only [Bool.and_eq_true] at hR
     obtain ⟨ρ',⟨ha,he⟩,s1,hl,hc⟩:=ar7 (X:=tl K Z F) (fun _ _ _ ha =>acX (Nat.le_of_ble_eq_true hR.2) ha) h1 s.sat
     exact fin _ _ _ _ (Nat.le_add_right ..) ha (abp ha _ (Nat.le_of_ble_eq_true hR.1)).symm s1 hn (akf hT (by rw [aaS]; simpa using hl) hc rfl)
    ·cases h
   ·cases h
  ·cases h
 ·cases h
end
def aaD:V→List V
 | .agg l =>l
 | v =>[v]
section
variable {K:KT}
def scV (H:KT.H K):V→Bool
 | .agg _ =>false
 | .tup _ =>false
 | .c v =>acK v
 | .mc id =>match get H id with
  | some (.mach _) =>true
  | _ =>false
 | _ =>true
def aAI {T:Nat→Type} {M:Type} (fs:List (Fd T M)) (o:Nat) (us:List V):List (Fd T M):=fs.take o++us.map .v++fs.drop (o+us.length)
theorem asu {ρ:Env}:∀ {us:List V} {o:Nat} {fs:List (Fd K.T K.M)} {vs:List Value} {L:List aad} {h:Hp},o+us.length≤fs.length→fs.length=vs.length→abC (fsS (fS K ρ) fs vs++L) h →
  abC (fsS (fS K ρ) (aAI fs o us) (vs.take o++aag ρ us++vs.drop (o+us.length))++L) h
 | us,o+1,[],vs,L,h,h1,_,_ =>by simp at h1
 | us,o+1,f::fs,[],L,h,_,h2,_ =>by simp at h2
 | us,o+1,f::fs,v::vs,L,h,h1,h2,s =>by
  have e1:aAI (f::fs) (o+1) us=f::aAI fs o us:=by simp [aAI,Nat.add_right_comm o 1]
  have e2:(v::vs).take (o+1)++aag ρ us++(v::vs).drop (o+1+us.length)=v::(vs.take o++aag ρ us++vs.drop (o+us.length)):=by simp [Nat.add_right_comm o 1]
  rw [e1,e2]
  simp only [fsS,List.cons_append] at s ⊢
  exact abi (fun k hk =>asu (by simp at h1; omega) (by simpa using h2) hk) s
 | [],0,fs,vs,L,h,_,_,s =>by simpa [aAI,aag] using s
 | u::us,0,[],vs,L,h,h1,_,_ =>by simp at h1
 | u::us,0,f::fs,[],L,h,_,h2,_ =>by simp at h2
 | u::us,0,f::fs,v::vs,L,h,h1,h2,s =>by
  have e1:aAI (f::fs) 0 (u::us)=.v u::aAI fs 0 us:=by simp [aAI]
  have e2:(v::vs).take 0++aag ρ (u::us)++(v::vs).drop (0+(u::us).length)=aat ρ u::(vs.take 0++aag ρ us++vs.drop (0+us.length)):=by simp [aag]
  rw [e1,e2]
  simp only [fsS,List.cons_append] at s ⊢
  have s1:=Ent.drop h s
  exact aqf (p:=aat ρ u=aat ρ u) rfl h (asu (us:=us) (o:=0) (by simp at h1 ⊢; omega) (by simpa using h2) s1)
theorem ayk {ρ:Env} {H:KT.H K} {X:List aad} {B:Nat} {w:World} {v:V} (h:scV H v=true) (s:Sat B w (dH K ρ H++X)):acK (aat ρ v)=true:=by
 cases v<;>first | rfl | (cases h; done) | exact h | skip
 rename_i id
 simp only [scV] at h
 split at h
 ·rename_i m hg
  obtain ⟨hh,Hh,k1,k2,a,e,hA,hL⟩:=s.imp (aaT (ρ:=ρ) hg)
  have hA':pcS K (.mach m) (ρ.v id) k1:=hA
  rw [aaB] at hA'
  simp only [pcW] at hA'
  simp only [aat]
  split at hA'
  ·rw [hA']; rfl
  ·obtain ⟨q,e',_⟩:=hA'; rw [e']; rfl
 ·cases h
theorem att {v:Value} (h:acK v=true):v.cells.toList=[v]:=by cases v<;>simp [acK] at h<;>rfl
theorem amz {ρ:Env} {H:KT.H K} {X:List aad} {B:Nat} {w:World} {v:V} (h:(aaD v).all (scV H)=true) (s:Sat B w (dH K ρ H++X)):(aat ρ v).cells.toList=aag ρ (aaD v)∧(aag ρ (aaD v)).all acK=true:=by
 have h2:(aag ρ (aaD v)).all acK=true:=by
  rw [aaS,List.all_map,List.all_eq_true]
  intro x hx
  exact ayk (List.all_eq_true.1 h x hx) s
 refine ⟨?_,h2⟩
 cases v with
 | agg l =>simp [aat,Value.cells,aaD]
 | _ =>exact att (by simpa [aaD,aag] using h2)
end
section
variable (K:KT)
def aIb (P:Program) (H:KT.H K) (T:TypeId) (x u:V):Option (KT.H K) :=
 match x with
 | .ptr id o =>match get H id with
  | some (.cells fs) =>match Nat.beq (P.cellsOf T) (aaD u).length && Nat.blt 0 (aaD u).length && Nat.ble (o+(aaD u).length) fs.length && (aaD u).all (scV H) with
   | true =>some ((id,.cells (aAI fs o (aaD u)))::del H id)
   | false =>none
  | _ =>none
 | _ =>none
end
section
variable {K:KT} {P:Program} {nt n B:Nat} {W:World} {R:aaX} {Z H:KT.H K} {nx:Nat→KT.H K→V→Prop}
theorem aqS {o:Oper} {T:TypeId} {x y:Operand} {u v:V} {H':KT.H K} (ho:o.op=.store T x y) (hx:evO R x=some u) (hy:evO R y=some v) (h:aIb K P H T u v=some H') (hn:nx n H' (.c undef)):aed K P nt B W o R n Z H nx:=fun F ρ a w s =>by
 obtain ⟨d,op,ty,ps,af,g⟩:=o
 simp only at ho
 subst ho
 have ex:=(aaJ (ρ:=ρ) hx).eval s.regs
 have ey:=(aaJ (ρ:=ρ) hy).eval s.regs
 unfold aIb at h
 split at h
 ·rename_i id o'
  split at h
  ·rename_i fs hg
   split at h
   ·rename_i hB
    cases h
    simp only [Bool.and_eq_true] at hB
    obtain ⟨⟨⟨b1,b2⟩,b3⟩,b4⟩:=hB
    have b1':=Nat.eq_of_beq_eq_true b1
    have b2':0<(aaD v).length:=Nat.le_of_ble_eq_true b2
    have b3':=Nat.le_of_ble_eq_true b3
    obtain ⟨hcl,hsc⟩:=amz b4 s.sat
    obtain ⟨vs,s2⟩:=ahe (s.sat.imp (aaT (ρ:=ρ) hg))
    have hl:=ajm s2
    have hlen:(aag ρ (aaD v)).length=(aaD v).length:=by rw [aaS]; simp
    obtain ⟨w',hr,c1,c2,c3⟩:=anP (P:=P) (T:=T) (v:=aat ρ v) (W:=W) (o':=(ρ.p id).2+o') (i:=o') (k:=(aaD v).length) (us:=aag ρ (aaD v)) s2 s.below s.lo rfl b1' hlen b2' hcl hsc (by omega)
    have:(execOp a.eval ⟨d,.store T x y,ty,ps,af,g⟩).run P w=.ok .skip w':=by
     simp only [execOp,ex,ey,aat,Instr.storeAt,Instr.sureAddr]
     rw [aaa (a:=()) (w':=w') (by rw [aaa (a:=(⟨(ρ.p id).1,(ρ.p id).2+o',none⟩:Addr)) (w':=w) rfl]; exact hr)]
     rfl
    rw [this]
    refine ⟨⟨ρ,n,_,.c undef⟩,rfl,⟨aay.refl _ _,Nat.le_refl _,rfl,hn⟩,c1,c2,c3.imp fun h hk =>?_⟩
    obtain ⟨k1,k2,a',e',hp,hq⟩:=hk
    have hq2:=asu (us:=aaD v) (o:=o') b3' hl hq
    have s6:abC ((pts (ρ.p id).1 (ρ.p id).2 (vs.take o'++aag ρ (aaD v)++vs.drop (o'+(aaD v).length))::fsS (fS K ρ) (aAI fs o' (aaD v)) (vs.take o'++aag ρ (aaD v)++vs.drop (o'+(aaD v).length)))++(dH K ρ (del H id)++tl K Z F ρ)) h:=⟨k1,k2,a',e',hp,hq2⟩
    obtain ⟨j1,j2,a'',e'',g1,g2⟩:=aal.1 s6
    exact ⟨j1,j2,a'',e'',⟨_,g1⟩,g2⟩
   ·cases h
  ·cases h
 ·cases h
end
section
variable (K:KT)
def abB (R:aaX) (n:Nat) (Z H:KT.H K):Bool:=Nat.ble (av6 R) n && Nat.ble (afi Z) n && Nat.ble (afi H) n
def aFS (R:aaX) (n:Nat) (Z H:KT.H K) (vs:List V):Option (Nat×KT.H K×V) :=
 match abB K R n Z H && Nat.ble (ahp vs) n with
 | true =>some (n+1,(n,.cells (vs.map .v))::H,.ptr n 0)
 | false =>none
def auV (P:Program) (T:TypeId):Option (List V):=(avZ P T).map fun z =>z.cells.toList.map aAO
end
section
variable {K:KT} {P:Program} {nt n B:Nat} {W:World} {R:aaX} {Z H:KT.H K} {nx:Nat→KT.H K→V→Prop}
theorem aiy {ρ:Env}:∀ {vs:List V} {L:List aad} {h:Hp},abC L h→abC (fsS (fS K ρ) (vs.map .v) (aag ρ vs)++L) h
 | [],_,_,s =>s
 | v::vs,L,h,s =>aqf (p:=aat ρ v=aat ρ v) rfl h (aiy (vs:=vs) s)
theorem azc {o:Oper} {vs:List V} {n':Nat} {H':KT.H K} {v:V} (h:aFS K R n Z H vs=some (n',H',v)) (hn:nx n' H' v)
  (ho:∀ F ρ a w,Sta nt B W (dR ρ R) (dS K ρ Z H F) a w→∃ u T,(execOp a.eval o).run P w=.ok (.value (.pointer (some ⟨w.heap.size,0,none⟩))) (w.alloc (.cells u T))∧u.toList=aag ρ vs):aed K P nt B W o R n Z H nx:=fun F ρ a w s =>by
 unfold aFS at h
 split at h
 ·rename_i hB
  cases h
  simp only [abB,Bool.and_eq_true] at hB
  obtain ⟨⟨⟨b1,b0⟩,b2⟩,b3⟩:=hB
  have b1':=Nat.le_of_ble_eq_true b1
  have b0':=Nat.le_of_ble_eq_true b0
  have b2':=Nat.le_of_ble_eq_true b2
  have b3':=Nat.le_of_ble_eq_true b3
  obtain ⟨u,T,hr,hu⟩:=ho F ρ a w s
  rw [hr]
  have ha:=ah9 ρ n (w.heap.size,0)
  refine ⟨⟨ρ.setP n (w.heap.size,0),n+1,_,.ptr n 0⟩,by simp [aat,Env.setP],⟨ha,Nat.le_succ _,(abp ha R b1').symm,hn⟩,adK s.below s.lo _,by simpa using Nat.le_succ_of_le s.lo,?_⟩
  have s1:=s.sat.fresh (cs:=u) (T:=T) s.lo
  refine s1.imp fun h hk =>?_
  obtain ⟨k1,k2,a',e',hp,hq⟩:=hk
  rw [hu,adH ha vs b3'] at hp
  have hq':abC (dS K (ρ.setP n (w.heap.size,0)) Z H F) k2:=by unfold dS; rw [← abU ha H b2',← acX b0' ha]; exact hq
  have s6:abC ((pts w.heap.size 0 (aag (ρ.setP n (w.heap.size,0)) vs)::fsS (fS K (ρ.setP n (w.heap.size,0))) (vs.map .v) (aag (ρ.setP n (w.heap.size,0)) vs))++dS K (ρ.setP n (w.heap.size,0)) Z H F) h:=⟨k1,k2,a',e',hp,aiy hq'⟩
  obtain ⟨j1,j2,a'',e'',g1,g2⟩:=aal.1 s6
  exact ⟨j1,j2,a'',e'',⟨_,by simpa [Env.setP] using g1⟩,g2⟩
 ·cases h
theorem axr {o:Oper} {T:TypeId} {vs:List V} {n':Nat} {H':KT.H K} {v:V} (ho:o.op=.alloc T) (hz:auV P T=some vs) (h:aFS K R n Z H vs=some (n',H',v)) (hn:nx n' H' v):aed K P nt B W o R n Z H nx:=by
 refine azc h hn fun F ρ a w s =>?_
 obtain ⟨d,op,ty,ps,af,g⟩:=o
 simp only at ho
 subst ho
 simp only [auV,Option.map_eq_some_iff] at hz
 obtain ⟨z,hz,rfl⟩:=hz
 refine ⟨z.cells,T,?_,?_⟩
 ·simp only [execOp,Instr.alloc]
  rw [aaa (a:=Value.pointer (some ⟨w.heap.size,0,none⟩)) (w':=w.alloc (.cells z.cells T)) (by rw [aaa (aoB hz)]; exact aaa (ara T z))]
  rfl
 ·rw [aaS,List.map_map]
  have:(aat ρ ∘ aAO)=id:=by funext x; exact aiE ρ x
  rw [this,List.map_id]
theorem aA8 {o:Oper} {T:TypeId} {x:Operand} {u:V} {n':Nat} {H':KT.H K} {v:V} (ho:o.op=.box T x) (hx:evO R x=some u) (hs:(aaD u).all (scV H)=true) (h:aFS K R n Z H (aaD u)=some (n',H',v)) (hn:nx n' H' v):aed K P nt B W o R n Z H nx:=by
 refine azc h hn fun F ρ a w s =>?_
 obtain ⟨d,op,ty,ps,af,g⟩:=o
 simp only at ho
 subst ho
 have ex:=(aaJ (ρ:=ρ) hx).eval s.regs
 refine ⟨(aat ρ u).cells,T,?_,(amz hs s.sat).1⟩
 simp only [execOp,ex,Instr.box]
 rw [aaa (a:=Value.pointer (some ⟨w.heap.size,0,none⟩)) (w':=w.alloc (.cells (aat ρ u).cells T)) (by rw [aaa (ara T _)]; rfl)]
 rfl
end
section
variable {P:Program} {ops:Array Oper} {Q:Exit→Act→World→Prop} {Φ Ψ:World→Prop}
def ahA (P:Program) (ops:Array Oper) (Q:Exit→Act→World→Prop) (Ob:Nat→World→World→Prop):Nat→Array Bool→Act→World→Prop
 | 0,listed,a,w =>Region.ready .any ops listed=[]∧NP Q .normal a w
 | f+1,listed,a,w =>(Region.ready .any ops listed=[]→NP Q .normal a w) ∧
  ∀ i∈Region.ready .any ops listed,wpOpIn (rf none) 0 P ops (NP Q) i (fun a' w' =>Ob i w w'∧ahA P ops Q Ob f (listed.setIfInBounds i true) a' w') a w
variable {Ob Ob':Nat→World→World→Prop}
theorem auI (h:∀ j w w',Ob j w w'→Ob' j w w'):∀ (f:Nat) (listed:Array Bool) (a:Act) (w:World),ahA P ops Q Ob f listed a w→ahA P ops Q Ob' f listed a w
 | 0,_,_,_,hh =>hh
 | f+1,_,_,w,hh =>⟨hh.1,fun i hi =>wpOpIn_mono (fun a' w' ⟨h1,h2⟩ =>⟨h i w w' h1,auI h f _ a' w' h2⟩) (hh.2 i hi)⟩
theorem axl:∀ (f:Nat) (listed:Array Bool) (a:Act) (w:World),ahA P ops Q Ob f listed a w→wpAnyIn (rf none) 0 P .any ops (NP Q) f listed a w
 | 0,_,_,_,hh =>hh
 | f+1,_,_,_,hh =>⟨hh.1,fun i hi =>wpOpIn_mono (fun a' w' ⟨_,h2⟩ =>axl f _ a' w' h2) (hh.2 i hi)⟩
def aj1 (ops:Array Oper) (listed:Array Bool):Prop:=∀ k ok,ops[k]?=some ok→listed.getD k false=true→∀ e∈ok.after,Region.binds .any e=true→listed.getD e.on false=true
theorem aj1.set {listed:Array Bool} {i:Nat} (h:aj1 ops listed) (hi:i∈Region.ready .any ops listed):aj1 ops (listed.setIfInBounds i true):=fun k ok hk hl e he hb =>by
 by_cases hik:i=k
 ·subst hik
  obtain ⟨_,o,ho,hall⟩:=mem_ready.1 hi
  rw [ho] at hk
  cases hk
  exact getD_set_true (hall e he hb)
 ·rw [getD_set_ne false hik] at hl
  exact getD_set_true (h k ok hk hl e he hb)
theorem avL:aj1 ops (Array.replicate ops.size false):=fun k ok hk hl =>by
 rw [Array.getD_eq_getD_getElem?,Array.getElem?_replicate] at hl
 split at hl<;>cases hl
inductive Desc (ops:Array Oper) (i:Nat):Nat→Prop
 | self:Desc ops i i
 | step {k:Nat} {ok:Oper} {e:Edge} (h:ops[k]?=some ok) (he:e∈ok.after) (hb:Region.binds .any e=true) (hd:Desc ops i e.on):Desc ops i k
theorem Desc.listed {listed:Array Bool} {i k:Nat} (hd:Desc ops i k) (hc:aj1 ops listed) (hk:listed.getD k false=true):listed.getD i false=true:=by
 induction hd with
 | self =>exact hk
 | step h he hb _ ih =>exact ih (hc _ _ h hk _ he hb)
theorem Desc.ready {listed:Array Bool} {i k:Nat} (hd:Desc ops i k) (hne:k≠i) (hc:aj1 ops listed) (hk:k∈Region.ready .any ops listed):listed.getD i false=true:=by
 cases hd with
 | self =>exact absurd rfl hne
 | step h he hb hd =>
  obtain ⟨_,o,ho,hall⟩:=mem_ready.1 hk
  rw [ho] at h
  cases h
  exact hd.listed hc (hall _ he hb)
def ad1 (P:Program) (ops:Array Oper) (Φ:World→Prop) (o:Oper) (v:Value) (a:Act):Prop :=
 ((Region.wanted o (yielded ops a.tmps)=true∧∀ w,Φ w→(execOp a.eval o).run P w=.ok (.value v) w)∨(Region.wanted o (yielded ops a.tmps)=false∧v=undef))∧∀ w,o.about P w a.eval=none
theorem ad1.of_same {o:Oper} {v:Value} {a a':Act} (hy:ad1 P ops Φ o v a) (he:execOp a'.eval o=execOp a.eval o)
  (hw:Region.wanted o (yielded ops a'.tmps)=Region.wanted o (yielded ops a.tmps)) (hb:∀ w,o.about P w a'.eval=o.about P w a.eval):ad1 P ops Φ o v a':=by
 unfold ad1 at *
 rw [he,hw]
 exact ⟨hy.1,fun w =>by rw [hb w]; exact hy.2 w⟩
theorem ad1.wpOpIn {i:Nat} {o:Oper} {v:Value} {a:Act} (hi:ops[i]?=some o) (hy:ad1 P ops Φ o v a) {K:Act→World→Prop} {w:World} (hw:Φ w) (h:K (a.put o.dst v) w):wpOpIn (rf none) 0 P ops (NP Q) i K a w:=by
 unfold Go.wpOpIn
 simp only [hi]
 have hab:∀ f,o.about P w a.eval=some f→(rf none).fn f:=fun f hf =>by rw [hy.2 w] at hf; cases hf
 rcases hy.1 with ⟨h1,hv⟩ | ⟨h1,rfl⟩
 ·simp only [h1,if_true,Oper.wpIn,rf,Oper.semAt_none,hv w hw,Oper.uponIn]; exact ⟨hab,h⟩
 ·simp only [h1,Bool.false_eq_true,if_false]; exact ⟨hab,h⟩
theorem aIF {j:Nat} {oi oj:Oper} {v:Value} (hj:ops[j]?=some oj) (hap:oi.apart ops oj=true) (hsi:∀ cs b,oi.op≠.select cs b) (hsj:∀ cs b,oj.op≠.select cs b) {K:Act→World→Prop} {a:Act} {w:World}
  (hy:ad1 P ops Φ oi v a) (h:wpOpIn (rf none) 0 P ops (NP Q) j K (a.put oi.dst v) w):wpOpIn (rf none) 0 P ops (NP Q) j (fun a' w' =>ad1 P ops Φ oi v a'∧K (a'.put oi.dst v) w') a w:=by
 obtain ⟨h1,h2,h3⟩:=Oper.apart_spec hap
 have keep:∀ (a:Act),ad1 P ops Φ oi v a→∀ u,ad1 P ops Φ oi v (a.put oj.dst u):=fun a hy u =>
  hy.of_same (execOp_put oi hsi a oj.dst u h3) (wanted_put oi a oj.dst u h3) (fun w =>about_put oi w a oj.dst u h3)
 unfold Go.wpOpIn at *
 simp only [hj] at *
 rw [wanted_put oj a oi.dst v h1,about_put oj w a oi.dst v h1] at h
 by_cases hw:Region.wanted oj (yielded ops a.tmps)=true
 ·rw [if_pos hw] at h ⊢
  unfold Oper.wpIn at *
  rw [about_put oj w a oi.dst v h1] at h
  refine ⟨h.1,?_⟩
  replace h:=h.2
  rw [show (rf none).round=none from rfl,Oper.semAt_none] at h ⊢
  rw [execOp_put oj hsj a oi.dst v h1] at h
  generalize (execOp a.eval oj).run P w=res at *
  cases res with
  | halt x w' =>cases x<;>exact h
  | ok x w' =>
   cases x<;>simp only [Oper.uponIn] at h ⊢
   case value u =>rw [Act.put_comm a v u h2] at h; exact ⟨keep a hy u,h⟩
   case skip =>rw [Act.put_comm a v undef h2] at h; exact ⟨keep a hy _,h⟩
   case defer d =>
    have hd:ad1 P ops Φ oi v { a with defers:=d::a.defers }:=hy.of_same rfl rfl (fun _ =>rfl)
    rw [Act.put_defers,Act.put_comm _ v undef h2] at h
    exact ⟨keep _ hd _,h⟩
   case enter f args =>
    refine ⟨h.1,CallsIn.mono h.2 fun e w'' he =>?_⟩
    cases e with
    | panicked c =>exact he
    | outgrown =>exact he
    | returned u =>simp only at he ⊢; rw [Act.put_comm a v u h2] at he; exact ⟨keep a hy u,he⟩
   case row row args =>exact ⟨h.1,RowsIn.mono h.2 fun u w'' he =>by rw [Act.put_comm a v u h2] at he; exact ⟨keep a hy u,he⟩⟩
   case round l f tmps assign body =>
    refine ⟨h.1,RoundIn.mono h.2 fun e w'' he =>?_⟩
    cases e with
    | panicked c =>exact he
    | outgrown =>exact he
    | returned u =>simp only at he ⊢; rw [Act.put_comm a v u h2] at he; exact ⟨keep a hy u,he⟩
 ·rw [if_neg hw] at h ⊢
  refine ⟨h.1,keep a hy _,?_⟩
  have:=h.2
  rwa [Act.put_comm a v undef h2] at this
theorem arq {i:Nat} {oi:Oper} {v:Value} (hi:ops[i]?=some oi) (hrefl:∀ w,Ob i w w) (hsel:∀ (j:Nat) (o:Oper) cs b,ops[j]?=some o→o.op≠.select cs b)
  (hstep:∀ (listed:Array Bool) (j:Nat),aj1 ops listed→listed.getD i true=false→j∈Region.ready .any ops listed→j≠i→∀ w w',Ob j w w'→Φ w→Φ w') :
  ∀ (f:Nat) (listed:Array Bool) (a:Act) (w:World),aj1 ops listed →
   (∀ j oj,ops[j]?=some oj→j≠i→listed.getD j true=false→(∀ e∈oj.after,Region.binds .any e=true→e.on≠i)→oi.apart ops oj=true) →
   i∈Region.ready .any ops listed→ad1 P ops Φ oi v a→Φ w →
   ahA P ops Q Ob f (listed.setIfInBounds i true) (a.put oi.dst v) w→ahA P ops Q Ob (f+1) listed a w:=by
 intro f
 induction f with
 | zero =>
  intro listed a w _ _ hr hy hw H
  refine ⟨fun h =>(by rw [h] at hr; cases hr),fun j hj =>?_⟩
  by_cases hji:j=i
  ·subst hji; exact hy.wpOpIn hi hw ⟨hrefl w,H⟩
  ·have:=ready_mono hj hji
   rw [H.1] at this
   cases this
 | succ f ih =>
  intro listed a w hcl hfree hr hy hw H
  refine ⟨fun h =>(by rw [h] at hr; cases hr),fun j hj =>?_⟩
  by_cases hji:j=i
  ·subst hji; exact hy.wpOpIn hi hw ⟨hrefl w,H⟩
  ·have h1:=H.2 j (ready_mono hj hji)
   obtain ⟨hjun,oj,hoj,hall⟩:=mem_ready.1 hj
   have hun:=(mem_ready.1 hr).1
   have hnot:∀ e∈oj.after,Region.binds .any e=true→e.on≠i:=fun e he hb heq =>by
    have h1:=hall e he hb
    rw [heq,getD_both hun] at h1
    cases h1
   have h2:=aIF hoj (hfree j oj hoj hji hjun hnot) (fun cs b =>hsel i oi cs b hi) (fun cs b =>hsel j oj cs b hoj) hy h1
   have hfree':∀ k ok,ops[k]?=some ok→k≠i→(listed.setIfInBounds j true).getD k true=false →
     (∀ e∈ok.after,Region.binds .any e=true→e.on≠i)→oi.apart ops ok=true:=fun k ok hk hki hun hno =>by
    refine hfree k ok hk hki ?_ hno
    by_cases hjk:j=k
    ·subst hjk; exact hjun
    ·rw [getD_set_ne true hjk] at hun; exact hun
   refine wpOpIn_mono (fun a' w' h3 =>?_) h2
   obtain ⟨hy',hw',h4⟩:=h3
   refine ⟨hw',ih (listed.setIfInBounds j true) a' w' (hcl.set hj) hfree' (ready_mono hr (Ne.symm hji)) hy' (hstep listed j hcl hun hj hji w w' hw' hw) ?_⟩
   rw [Array.setIfInBounds_comm _ _ hji]
   exact h4
theorem ajY {i:Nat} {oi:Oper} {v:Value} {f:Nat} {listed:Array Bool} {a:Act} {w:World} (hi:ops[i]?=some oi) (hrefl:∀ w,Ob i w w) (hB:auY ops listed i=true) (hcl:aj1 ops listed) (hy:ad1 P ops (fun _ =>True) oi v a)
  (h:ahA P ops Q Ob f (listed.setIfInBounds i true) (a.put oi.dst v) w):ahA P ops Q Ob (f+1) listed a w:=by
 simp only [auY,Bool.and_eq_true] at hB
 exact arq hi hrefl (Region.noSelect_spec hB.1.1) (fun _ _ _ _ _ _ _ _ _ h =>h) f listed a w hcl (Region.free_spec hi hB.1.2) (by simpa using hB.2) hy trivial h
theorem aAy {i:Nat} {oi:Oper} {v:Value} {f:Nat} {listed:Array Bool} {a:Act} {w:World} (hi:ops[i]?=some oi) (hrefl:∀ w,Ob i w w) (hB:auY ops listed i=true) (hcl:aj1 ops listed) (hOb:∀ j w w',Ob j w w'→¬ Desc ops i j→Φ w→Φ w') (hy:ad1 P ops Φ oi v a) (hw:Φ w)
  (h:ahA P ops Q Ob f (listed.setIfInBounds i true) (a.put oi.dst v) w):ahA P ops Q Ob (f+1) listed a w:=by
 simp only [auY,Bool.and_eq_true] at hB
 refine arq hi hrefl (Region.noSelect_spec hB.1.1) (fun l j hcl hun hj hji w w' ho =>hOb j w w' ho fun hd =>?_) f listed a w hcl (Region.free_spec hi hB.1.2) (by simpa using hB.2) hy hw h
 have:=hd.ready hji hcl hj
 rw [getD_both hun] at this
 cases this
def inN:List Nat→Nat→Bool
 | [],_ =>false
 | x::l,n =>Nat.beq x n || inN l n
end
def anr {T:Nat→Type} (c c':Nat) (xs:List (T c)):Option (List (T c')):=if h:c=c' then some (h▸xs) else none
def aAk {T:Nat→Type} (c c':Nat) (xs:List (List (T c))):Option (List (List (T c'))):=if h:c=c' then some (h▸xs) else none
theorem aAj {T:Nat→Type} {c c':Nat} {xs:List (List (T c))} {ys:List (List (T c'))} (h:aAk c c' xs=some ys):∃ e:c=c',ys=e▸xs:=by
 unfold aAk at h
 split at h
 ·rename_i e; cases h; exact ⟨e,rfl⟩
 ·cases h
theorem agH {T:Nat→Type} {c c':Nat} {xs:List (T c)} {ys:List (T c')} (h:anr c c' xs=some ys):∃ e:c=c',ys=e▸xs:=by
 unfold anr at h
 split at h
 ·rename_i e; cases h; exact ⟨e,rfl⟩
 ·cases h
def amB {α β:Type} (h:α=β) (xs:List α):List β:=(congrArg List h)▸xs
theorem ae6 {α β:Type} (h:α=β) (xs:List α):amB h xs=xs.map (fun x =>h▸x):=by subst h; simp [amB]
def oB:V→Bool
 | .ifc _ _ =>true
 | .ptr _ _ =>true
 | .sl _ =>true
 | .c u =>acK u
 | _ =>false
theorem aIM {ρ:Env} {v:V} (h:oB v=true):acK (aat ρ v)=true:=by
 cases v<;>first | rfl | (cases h; done) | exact h
section
variable (K:KT)
def aIq (own:KT.H K→(c:Nat)→List (Fd K.T K.M)→Option (K.T c×KT.H K)) (H:KT.H K) (e:Fl K.T K.M) (v:V):Option (Fl K.T K.M×KT.H K) :=
 match e with
 | .i k _ =>match akB v with
  | some (k',x,_) =>match atu k' k with
   | true =>some (.i k x,H)
   | false =>none
  | none =>none
 | .b _ =>match auD v with
  | some x =>some (.b x,H)
  | none =>none
 | .c _ =>none
 | .ro c _ =>match v with
  | .sl id =>match get H id with
   | some (.ro c' xs) =>match anr c' c xs with
    | some ys =>some (.ro c ys,H)
    | none =>none
   | some (.row c' xs) =>match anr c' c xs with
    | some ys =>match K.pl c' && Nat.blt 0 (K.sz c') with
     | true =>some (.ro c ys,(id,.ro c' xs)::del H id)
     | false =>none
    | none =>none
   | _ =>none
  | .c (.slice none 0 0) =>some (.ro c [],H)
  | _ =>none
 | .rr c _ =>match v with
  | .sl id =>match get H id with
   | some (.rr c' xs) =>match aAk c' c xs with
    | some ys =>some (.rr c ys,H)
    | none =>none
   | some (.row c' xs) =>match K.ls c c' with
    | some h =>some (.rr c (amB h.down xs),(id,.rr c (amB h.down xs))::del H id)
    | none =>none
   | _ =>none
  | .c (.slice none 0 0) =>some (.rr c [],H)
  | _ =>none
 | .row c _ =>match v with
  | .sl id =>match get H id with
   | some (.row c' xs) =>match anr c' c xs with
    | some ys =>some (.row c ys,del H id)
    | none =>none
   | some (.hole c' xs i o u) =>match anr c' c xs with
    | some ys =>match (K.vw c (atL (K.df c) ys i))[o]? with
     | some (.own c2 _) =>match u with
      | .ptr id2 p =>match p with
       | 0 =>match get (del H id) id2 with
        | some (.cells fs) =>match own (del (del H id) id2) c2 fs with
         | some (y,H') =>match K.bk c ((K.vw c (atL (K.df c) ys i)).set o (.own c2 y)) with
          | some x' =>some (.row c (ys.set i.toNat x'),H')
          | none =>none
         | none =>none
        | _ =>none
       | _ =>none
      | _ =>none
     | some (.mach _) =>match u with
      | .mc id2 =>match get (del H id) id2 with
       | some (.mach m) =>match K.bk c ((K.vw c (atL (K.df c) ys i)).set o (.mach m)) with
        | some x' =>some (.row c (ys.set i.toNat x'),del (del H id) id2)
        | none =>none
       | _ =>none
      | _ =>none
     | _ =>none
    | none =>none
   | _ =>none
  | .c (.slice none 0 0) =>some (.row c [],H)
  | _ =>none
 | .own c _ =>match v with
  | .ptr id o =>match o with
   | 0 =>match get H id with
    | some (.cells fs) =>match own (del H id) c fs with
     | some (x,H') =>some (.own c x,H')
     | none =>none
    | _ =>none
   | _ =>none
  | _ =>none
 | .o =>match oB v with
  | true =>some (.o,H)
  | false =>none
 | .mach _ =>match v with
  | .mc id =>match get H id with
   | some (.mach m) =>some (.mach m,del H id)
   | _ =>none
  | .c .nilIface =>some (.mach K.nilM,H)
  | .ifc t v =>match v with
   | .ptr id o =>match o with
    | 0 =>match K.kd t with
     | some c =>match get H id with
      | some (.cells fs) =>match own (del H id) c fs with
       | some (x,H') =>match K.mkM c x with
        | some m =>some (.mach m,H')
        | none =>none
       | none =>none
      | _ =>none
     | none =>none
    | _ =>none
   | _ =>none
  | _ =>none
def auU (a:KT.H K→Fl K.T K.M→V→Option (Fl K.T K.M×KT.H K)):KT.H K→List (Fl K.T K.M)→List (Fd K.T K.M)→Option (List (Fl K.T K.M)×KT.H K)
 | H,[],[] =>some ([],H)
 | H,e::es,.f x::fs =>match auU a H es fs with
  | some (l,H') =>some (x::l,H')
  | none =>none
 | H,e::es,.v v::fs =>match a H e v with
  | some (x,H') =>match auU a H' es fs with
   | some (l,H'') =>some (x::l,H'')
   | none =>none
  | none =>none
 | _,_,_ =>none
def aIs:Nat→KT.H K→(c:Nat)→List (Fd K.T K.M)→Option (K.T c×KT.H K)
 | 0,_,_,_ =>none
 | f+1,H,c,fs =>match auU K (aIq K (aIs f)) H (K.vw c (K.df c)) fs with
  | some (l,H') =>match K.bk c l with
   | some x =>some (x,H')
   | none =>none
  | none =>none
def depth:Nat:=9
abbrev asm:KT.H K→Fl K.T K.M→V→Option (Fl K.T K.M×KT.H K):=aIq K (aIs K depth)
end
section
variable {K:KT} {ρ:Env}
theorem alS:∀ {l:List (Fl K.T K.M)} {vs:List Value} {L:List aad} {h:Hp},akQ l=true→abC (fsS (pcS K) l vs++L) h→vs=l.map flV∧abC L h
 | [],[],_,_,_,s =>⟨rfl,s⟩
 | f::l,v::vs,L,h,hp,s =>by
  obtain ⟨k1,k2,a,e,hA,hL⟩:=s
  have hd:=Ent.drop h (show abC (pcS K f v::(fsS (pcS K) l vs++L)) h from ⟨k1,k2,a,e,hA,hL⟩)
  rw [aaB] at hA
  cases f<;>simp only [akQ,Bool.false_eq_true] at hp
  ·obtain ⟨h1,h2⟩:=alS hp hd
   exact ⟨by rw [List.map_cons,← h1]; congr 1,h2⟩
  ·obtain ⟨h1,h2⟩:=alS hp hd
   exact ⟨by rw [List.map_cons,← h1]; congr 1,h2⟩
 | [],_::_,_,_,_,⟨_,_,_,_,hf,_⟩ =>hf.elim
 | _::_,[],_,_,_,⟨_,_,_,_,hf,_⟩ =>hf.elim
theorem am5 {c:Nat} (hc:K.pl c=true):∀ {xs:List (K.T c)} {vss:List (List Value)} {L:List aad} {h:Hp},abC (abY K (pcS K) c xs vss++L) h→vss=xs.map (aeR K c)∧abC L h
 | [],[],_,_,s =>⟨rfl,s⟩
 | x::xs,vs::vss,L,h,s =>by
  have s':abC (fsS (pcS K) (K.vw c x) vs++(abY K (pcS K) c xs vss++L)) h:=by simpa [abY] using s
  obtain ⟨h1,h2⟩:=alS (K.pl_ok c hc x) s'
  obtain ⟨h3,h4⟩:=am5 hc h2
  exact ⟨by rw [List.map_cons,← h3,h1]; rfl,h4⟩
 | [],_::_,_,_,⟨_,_,_,_,hf,_⟩ =>hf.elim
 | _::_,[],_,_,⟨_,_,_,_,hf,_⟩ =>hf.elim
theorem ajl {B:Nat} {w:World} {H:KT.H K} {X:List aad} {id c:Nat} {xs:List (K.T c)} (s:Sat B w (dH K ρ H++X)) (h:get H id=some (.row c xs)∨get H id=some (.ro c xs)):aat ρ (.sl id)=.slice (ρ.s id).a xs.length (ρ.s id).c:=by
 rcases h with h | h
 ·rw [aat,ait (H:=H) (m:=xs.length) (by unfold azj; rw [h]) s]
 ·rw [aat,ait (H:=H) (m:=xs.length) (by unfold azj; rw [h]) s]
theorem awd {B:Nat} {w:World} {c:Nat} {xs:List (K.T c)} {A:Option Addr} {cap:Nat} {L:List aad} (hc:K.pl c=true) (hz:0<K.sz c) (s:Sat B w (rwS K c xs A cap::L)):Sat B w (roS (aeR K c) (K.sz c) A cap xs::L):=by
 obtain ⟨h,Hh,k1,k2,a,e,h1,hL⟩:=s
 rw [acL] at h1
 obtain ⟨vss,q1,q2,a',e',g1,g2⟩:=h1
 have g3:abC (abY K (pcS K) c xs vss++[]) q2:=by simpa using g2
 obtain ⟨rfl,_⟩:=am5 hc g3
 have s2:Sat B w (aef A xs.length cap (K.sz c) (xs.flatMap (aeR K c))::L):=by
  refine ⟨h,Hh,k1,k2,a,e,?_,hL⟩
  rw [← List.flatMap_def] at g1
  rw [e']
  obtain ⟨r1,r2,r3,r4⟩:=g1
  refine ⟨r1,r2,r3,r4.imp id ?_⟩
  rintro ⟨b,o,spare,hA,hs,hp⟩
  exact ⟨b,o,spare,hA,hs,fun i v hi =>by unfold adf; rw [hp i v hi]⟩
 exact atA hz (fun x =>by unfold aeR; rw [List.length_map,K.sz_ok]) rfl B w s2
theorem atx {B:Nat} {w:World} {c c':Nat} {hc:PLift (K.T c'=List (K.T c))} (h:K.ls c c'=some hc):∀ {xs:List (K.T c')} {vss:List (List Value)} {L:List aad},Sat B w (abY K (pcS K) c' xs vss++L) →
  ∃ ps:List (Option Addr×Nat),(vss.flatten.length=xs.length∧∀ (i:Nat) ys,(amB hc.down xs)[i]?=some ys→∃ a,ps[i]?=some a∧vss.flatten[i]?=some (.slice a.1 ys.length a.2)) ∧
   Sat B w (ae8 (fun u =>∀ (i:Nat) ys a,(amB hc.down xs)[i]?=some ys→ps[i]?=some a→Sl (aeR K c) (K.sz c) u u.heap.size a.1 ys∧ys.length≤a.2)::L)
 | [],[],L,s =>⟨[],⟨rfl,fun i ys hi =>by rw [ae6] at hi; cases hi⟩,s.imp fun k hk =>(apR.trans (Ent.cons (aea fun _ _ i ys a hi =>by rw [ae6] at hi; cases hi) Ent.refl)) k hk⟩
 | x::xs,vs::vss,L,s =>by
  have s':Sat B w (fsS (pcS K) (K.vw c' x) vs++(abY K (pcS K) c' xs vss++L)):=s.imp fun k hk =>by simpa [abY] using hk
  have hro:∃ v A cap,vs=[v]∧v=.slice A (hc.down▸x:List (K.T c)).length cap∧Sat B w (roS (aeR K c) (K.sz c) A cap (hc.down▸x)::(abY K (pcS K) c' xs vss++L)):=by
   rcases K.ls_ok _ _ _ h x with hv | ⟨hv,hpl,hsz⟩
   ·rw [hv] at s'
    match vs,s' with
    | [],s' =>obtain ⟨_,_,_,_,_,_,hf,_⟩:=s'; exact hf.elim
    | _::_::_,s' =>obtain ⟨_,_,_,_,_,_,_,_,_,_,_,hf,_⟩:=s'; exact hf.elim
    | [v],s' =>
     obtain ⟨k,Hk,k1,k2,a,e,h1,h2⟩:=(show Sat B w (pcS K (.ro c (hc.down▸x)) v::(abY K (pcS K) c' xs vss++L)) from s')
     rw [aaB] at h1
     obtain ⟨A,cap,hv',hro⟩:=h1
     exact ⟨v,A,cap,rfl,hv',k,Hk,k1,k2,a,e,hro,h2⟩
   ·rw [hv] at s'
    match vs,s' with
    | [],s' =>obtain ⟨_,_,_,_,_,_,hf,_⟩:=s'; exact hf.elim
    | _::_::_,s' =>obtain ⟨_,_,_,_,_,_,_,_,_,_,_,hf,_⟩:=s'; exact hf.elim
    | [v],s' =>
     obtain ⟨k,Hk,k1,k2,a,e,h1,h2⟩:=(show Sat B w (pcS K (.row c (hc.down▸x)) v::(abY K (pcS K) c' xs vss++L)) from s')
     rw [aaB] at h1
     obtain ⟨A,cap,hv',hro⟩:=h1
     exact ⟨v,A,cap,rfl,hv',awd hpl hsz ⟨k,Hk,k1,k2,a,e,hro,h2⟩⟩
  obtain ⟨v,A,cap,rfl,rfl,s0⟩:=hro
  have s1:Sat B w (abY K (pcS K) c' xs vss++(roS (aeR K c) (K.sz c) A cap (hc.down▸x)::L)):=s0.imp fun k hk =>abE (List.perm_middle (l₁:=abY K (pcS K) c' xs vss)).symm hk
  obtain ⟨ps,⟨g1,g2⟩,s2⟩:=atx h s1
  refine ⟨(A,cap)::ps,⟨by simp [g1],fun i ys hi =>?_⟩,?_⟩
  ·rw [ae6] at hi g2
   cases i with
   | zero =>simp at hi; subst hi; exact ⟨_,rfl,rfl⟩
   | succ i =>exact g2 i ys (by simpa using hi)
  ·refine s2.imp fun k hk =>aaM (aea fun u hu i ys a hi ha =>?_) (awO k hk)
   rw [ae6] at hi hu
   cases i with
   | zero =>simp at hi ha; subst hi ha; exact hu.2
   | succ i =>exact hu.1 i ys a (by simpa using hi) (by simpa using ha)
 | [],_::_,_,⟨_,_,_,_,_,_,hf,_⟩ =>hf.elim
 | _::_,[],_,⟨_,_,_,_,_,_,hf,_⟩ =>hf.elim
theorem aGx {B:Nat} {w:World} {c c':Nat} {hc:PLift (K.T c'=List (K.T c))} (h:K.ls c c'=some hc) {xs:List (K.T c')} {A:Option Addr} {cap:Nat} {L:List aad} (s:Sat B w (rwS K c' xs A cap::L)) :
  ∃ ps:List (Option Addr×Nat),Sat B w (ae8 (fun u =>((amB hc.down xs).length≤9223372036854775807∧(amB hc.down xs).length≤cap) ∧
   ∀ (i:Nat) ys,(amB hc.down xs)[i]?=some ys→∃ a,ps[i]?=some a∧(Sl (aeR K c) (K.sz c) u u.heap.size a.1 ys∧ys.length≤a.2)∧∃ b o,A=some ⟨b,o,none⟩∧b<u.heap.size∧u.cell? ⟨b,o+i,none⟩=some (.slice a.1 ys.length a.2))::L):=by
 obtain ⟨k,Hk,k1,k2,a,e,h1,hL⟩:=s
 rw [acL] at h1
 obtain ⟨vss,q1,q2,a',e',g1,g2⟩:=h1
 have hs0:abC ((aef A xs.length cap (K.sz c') vss.flatten::abY K (pcS K) c' xs vss)++L) k:=aal.2 ⟨k1,k2,a,e,⟨q1,q2,a',e',g1,g2⟩,hL⟩
 have hs1:abC (abY K (pcS K) c' xs vss++(aef A xs.length cap (K.sz c') vss.flatten::L)) k:=abE (List.perm_middle (l₁:=abY K (pcS K) c' xs vss)).symm hs0
 obtain ⟨ps,⟨f1,f2⟩,s2⟩:=atx h ⟨k,Hk,hs1⟩
 have hsz:K.sz c'=1∨xs=[]:=by
  cases xs with
  | nil =>exact .inr rfl
  | cons x xs =>left; rw [← K.sz_ok c' x]; rcases K.ls_ok _ _ _ h x with e | ⟨e,_⟩<;>rw [e]<;>rfl
 have s3:Sat B w (aef A xs.length cap (K.sz c') vss.flatten::ae8 (fun u =>∀ (i:Nat) ys a,(amB hc.down xs)[i]?=some ys→ps[i]?=some a→Sl (aeR K c) (K.sz c) u u.heap.size a.1 ys∧ys.length≤a.2)::L):=s2.imp fun _ =>apl
 refine ⟨ps,?_⟩
 have hlen:(amB hc.down xs).length=xs.length:=by rw [ae6,List.length_map]
 rcases hsz with hsz | rfl
 ·rw [hsz] at s3
  have s4:Sat B w (aef A xs.length cap 1 (vss.flatten.flatMap fun v =>[v])::ae8 (fun u =>∀ (i:Nat) ys a,(amB hc.down xs)[i]?=some ys→ps[i]?=some a→Sl (aeR K c) (K.sz c) u u.heap.size a.1 ys∧ys.length≤a.2)::L):=by
   have:(vss.flatten.flatMap fun v =>[v])=vss.flatten:=by simp
   rw [this]; exact s3
  have s5:=atA (enc:=fun v:Value =>[v]) Nat.one_pos (fun _ =>rfl) f1 B w s4
  refine s5.imp fun k hk =>aaM (aea fun u hu =>?_) (awO k hk)
  obtain ⟨⟨u1,u2⟩,u3⟩:=hu
  refine ⟨⟨by rw [hlen,← f1]; exact u1.1,by rw [hlen,← f1]; exact u2⟩,fun i ys hi =>?_⟩
  obtain ⟨a,ha,hv⟩:=f2 i ys hi
  have hlt:=(List.getElem?_eq_some_iff.1 hv).1
  obtain ⟨b,o,hA,hb,hc'⟩:=u1.at_ hlt
  refine ⟨a,ha,u3 i ys a hi ha,b,o,hA,hb,?_⟩
  have:=hc' i hlt 0 (.slice a.1 ys.length a.2) (by rw [(List.getElem?_eq_some_iff.1 hv).2]; rfl)
  simpa using this
 ·refine s3.imp fun k hk =>aaM (aea fun u hu =>⟨⟨by simp [ae6],by simp [ae6]⟩,fun i ys hi =>by rw [ae6] at hi; cases hi⟩) (Ent.drop k hk)
def aFM (K:KT) (a:KT.H K→Fl K.T K.M→V→Option (Fl K.T K.M×KT.H K)):Prop :=
 ∀ H e v fl H',a H e v=some (fl,H')→∀ ρ X B w,Sat B w (dH K ρ H++X)→Sat B w (pcS K fl (aat ρ v)::(dH K ρ H'++X))
def aFL (K:KT) (own:KT.H K→(c:Nat)→List (Fd K.T K.M)→Option (K.T c×KT.H K)):Prop :=
 ∀ H c fs x H',own H c fs=some (x,H')→∀ ρ X vs B w,Sat B w (fsS (fS K ρ) fs vs++(dH K ρ H++X))→Sat B w (fsS (pcS K) (K.vw c x) vs++(dH K ρ H'++X))
theorem aa5 {B:Nat} {w:World} {p:aad} {L:List aad} (s:Sat B w L) (h:∀ k,p k):Sat B w (p::L):=s.imp fun k hk =>⟨fun _ _ =>none,k,fun _ _ =>.inl rfl,by funext x y; rfl,h _,hk⟩
theorem abd {B:Nat} {w:World} {A A':aad} {L:List aad} (f:∀ h,A h→A' h) (s:Sat B w (A::L)):Sat B w (A'::L):=s.imp fun _ =>aaM f
theorem avm {own:KT.H K→(c:Nat)→List (Fd K.T K.M)→Option (K.T c×KT.H K)} (ho:aFL K own) {H H':KT.H K} {id c:Nat} {fs:List (Fd K.T K.M)} {x:K.T c} (hg:get H id=some (.cells fs)) (h:own (del H id) c fs=some (x,H')) {X:List aad} {B:Nat} {w:World} (s:Sat B w (dH K ρ H++X)) :
  Sat B w (obS K c x (ρ.p id)::(dH K ρ H'++X)):=by
 obtain ⟨vs,s2⟩:=ahe (s.imp (aaT (ρ:=ρ) hg))
 have s3:=ho _ _ _ _ _ h ρ (pts (ρ.p id).1 (ρ.p id).2 vs::X) vs B w (s2.perm (by
  show ((pts (ρ.p id).1 (ρ.p id).2 vs::fsS (fS K ρ) fs vs)++(dH K ρ (del H id)++X)).Perm (fsS (fS K ρ) fs vs++(dH K ρ (del H id)++(pts (ρ.p id).1 (ρ.p id).2 vs::X)))
  rw [← List.append_assoc,← List.append_assoc]
  exact (List.perm_middle (l₁:=fsS (fS K ρ) fs vs++dH K ρ (del H id))).symm))
 have s4:Sat B w ((pts (ρ.p id).1 (ρ.p id).2 vs::fsS (pcS K) (K.vw c x) vs)++(dH K ρ H'++X)):=s3.perm (by
  rw [← List.append_assoc,List.cons_append,← List.append_assoc]
  exact List.perm_middle)
 refine s4.imp fun k hk =>?_
 obtain ⟨k1,k2,a,e,g1,g2⟩:=aal.1 hk
 exact ⟨k1,k2,a,e,ala.2 ⟨vs,g1⟩,g2⟩
theorem aAt {own:KT.H K→(c:Nat)→List (Fd K.T K.M)→Option (K.T c×KT.H K)} (ho:aFL K own):aFM K (aIq K own):=by
 intro H e v fl H' h ρ X B w s
 unfold aIq at h
 split at h
 ·split at h
  ·rename_i hi
   split at h
   ·rename_i hk
    cases h
    obtain rfl:=aii hk
    exact aa5 s fun k =>aaB.2 (show aat ρ v=_ from aiw hi)
   ·cases h
  ·cases h
 ·split at h
  ·rename_i hb; cases h; exact aa5 s fun k =>aaB.2 (show aat ρ v=_ from amC hb)
  ·cases h
 ·cases h
 ·rename_i c xs0
  split at h
  ·rename_i id
   split at h
   ·rename_i c' xs hg
    split at h
    ·rename_i ys hy
     cases h
     obtain ⟨rfl,rfl⟩:=agH hy
     have hv:=ajl s (.inr hg)
     obtain ⟨h0,H0,t0⟩:=s
     have key:Sat B w (roS (aeR K c') (K.sz c') (ρ.s id).a (ρ.s id).c ys::(dH K ρ H++X)):=by
      have:∀ k,abC (dH K ρ H++X) k→abC (roS (aeR K c') (K.sz c') (ρ.s id).a (ρ.s id).c ys::(dH K ρ H++X)) k:=by
       intro k hk
       obtain ⟨j1,j2,a1,e1,⟨_,m2⟩,mL⟩:=aaT (ρ:=ρ) hg k hk
       obtain ⟨p,hp,hΦ⟩:=m2
       refine ⟨p,k,fun b o =>?_,?_,⟨p,fun b o x hx =>⟨(hp b o x hx).1,hx⟩,hΦ⟩,hk⟩
       ·cases hpb:p b o with
        | none =>exact .inl rfl
        | some x =>
         obtain ⟨⟨v,rfl⟩,h2⟩:=hp b o x hpb
         exact .inr (.inr ⟨v,rfl,by rw [e1]; unfold adf; rw [h2]⟩)
       ·funext b o
        unfold adf
        cases hpb:p b o with
        | none =>rfl
        | some x =>
         obtain ⟨⟨v,rfl⟩,h2⟩:=hp b o x hpb
         rw [e1]; unfold adf; rw [h2]
      exact ⟨h0,H0,this _ t0⟩
     exact abd (fun k hk =>aaB.2 (show pcW K (obS K) (rwS K) (.ro c' ys) (aat ρ (.sl id)) k from ⟨_,_,hv,hk⟩)) key
    ·cases h
   ·rename_i c' xs hg
    split at h
    ·rename_i ys hy
     split at h
     ·rename_i hpl
      cases h
      obtain ⟨rfl,rfl⟩:=agH hy
      have hv:=ajl s (.inl hg)
      obtain ⟨hh,Hh,k1,k2,a,e,⟨h1,h2⟩,hL⟩:=s.imp (aaT (ρ:=ρ) hg)
      simp only [Bool.and_eq_true] at hpl
      have s2:Sat B w (rwS K c' ys (ρ.s id).a (ρ.s id).c::(dH K ρ (del H id)++X)):=⟨hh,Hh,k1,k2,a,e,h2,hL⟩
      refine ((awd hpl.1 (Nat.le_of_ble_eq_true hpl.2) s2).imp ayw).imp fun k hk =>?_
      exact aaM (fun k hk =>aaB.2 (show pcW K (obS K) (rwS K) (.ro c' ys) (aat ρ (.sl id)) k from ⟨_,_,hv,hk⟩)) (abi (fun k hk =>aaM (fun k hk =>⟨h1,hk⟩) hk) hk)
     ·cases h
    ·cases h
   ·cases h
  ·cases h
   exact s.imp fun k hk =>by
    have:=aCW (enc:=aeR K c) (sz:=K.sz c) (A:=none) (c:=0) k hk
    exact aaM (fun k hk =>aaB.2 (show pcW K (obS K) (rwS K) (.ro c []) (.slice none 0 0) k from ⟨none,0,rfl,hk⟩)) this
  ·cases h
 ·rename_i c xs0
  split at h
  ·rename_i id
   split at h
   ·rename_i c' xs hg
    split at h
    ·rename_i ys hy
     cases h
     obtain ⟨rfl,rfl⟩:=aAj hy
     have hv:aat ρ (.sl id)=.slice (ρ.s id).a ys.length (ρ.s id).c:=by
      rw [aat,ait (H:=H) (m:=ys.length) (by unfold azj; rw [hg]) s]
     obtain ⟨h0,H0,t0⟩:=s
     refine ⟨h0,H0,?_⟩
     obtain ⟨j1,j2,a1,e1,⟨m1,ps,m2⟩,mL⟩:=aaT (ρ:=ρ) hg h0 t0
     obtain ⟨p,hp,hΦ⟩:=m2
     have hpp:∀ b o x,p b o=some x→(∃ v,x=.look v)∧h0 b o=some x:=fun b o x hx =>⟨(hp b o x hx).1,by rw [e1]; unfold adf; rw [(hp b o x hx).2]⟩
     refine ⟨p,h0,fun b o =>?_,?_,aaB.2 (show pcW K (obS K) (rwS K) (.rr c' ys) (aat ρ (.sl id)) p from ⟨_,_,hv,ps,p,fun b o x hx =>⟨(hpp b o x hx).1,hx⟩,hΦ⟩),t0⟩
     ·cases hpb:p b o with
      | none =>exact .inl rfl
      | some x =>
       obtain ⟨⟨v,rfl⟩,h2⟩:=hpp b o x hpb
       exact .inr (.inr ⟨v,rfl,h2⟩)
     ·funext b o
      unfold adf
      cases hpb:p b o with
      | none =>rfl
      | some x =>exact (hpp b o x hpb).2
    ·cases h
   ·rename_i c' xs hg
    split at h
    ·rename_i hc hls
     cases h
     have hv:=ajl s (.inl hg)
     obtain ⟨hh,Hh,k1,k2,a,e,⟨h1,h2⟩,hL⟩:=s.imp (aaT (ρ:=ρ) hg)
     have s2:Sat B w (rwS K c' xs (ρ.s id).a (ρ.s id).c::(dH K ρ (del H id)++X)):=⟨hh,Hh,k1,k2,a,e,h2,hL⟩
     obtain ⟨ps,s3⟩:=aGx hls s2
     have hlen:(amB hc.down xs).length=xs.length:=by rw [ae6,List.length_map]
     refine (s3.imp amb).imp fun k hk =>?_
     exact aaM (fun k hk =>aaB.2 (show pcW K (obS K) (rwS K) (.rr c (amB hc.down xs)) (aat ρ (.sl id)) k from ⟨_,_,by rw [hv,hlen],ps,hk⟩)) (abi (fun k hk =>aaM (fun k hk =>⟨by rw [h1,hlen],ps,hk⟩) hk) hk)
    ·cases h
   ·cases h
  ·cases h
   exact s.imp fun k hk =>by
    refine aaM (fun k hk =>aaB.2 (show pcW K (obS K) (rwS K) (.rr c []) (.slice none 0 0) k from ⟨none,0,rfl,[],?_⟩)) (apR k hk)
    exact aea (fun u _ =>⟨⟨by simp,by simp⟩,fun i ys hi =>by cases hi⟩) k hk
  ·cases h
 ·rename_i c xs0
  split at h
  ·rename_i id
   split at h
   ·rename_i c' xs hg
    split at h
    ·rename_i ys hy
     cases h
     obtain ⟨rfl,rfl⟩:=agH hy
     have hv:=ajl s (.inl hg)
     obtain ⟨hh,Hh,k1,k2,a,e,⟨h1,h2⟩,hL⟩:=s.imp (aaT (ρ:=ρ) hg)
     exact ⟨hh,Hh,k1,k2,a,e,aaB.2 (show pcW K (obS K) (rwS K) (.row c' ys) (aat ρ (.sl id)) k1 from ⟨_,_,hv,h2⟩),hL⟩
    ·cases h
   ·rename_i c' xs i o u hg
    split at h
    ·rename_i ys hy
     obtain ⟨rfl,rfl⟩:=agH hy
     have fin:∀ {f':Fl K.T K.M} {x':K.T c'} {L:List aad},K.bk c' ((K.vw c' (atL (K.df c') ys i)).set o f')=some x'→Sat B w (acI K ρ id (.hole c' ys i o u)::pcS K f' (aat ρ u)::L)→Sat B w (pcS K (.row c' (ys.set i.toNat x')) (aat ρ (.sl id))::L):=by
      intro f' x' L hb s'
      refine abd (fun k hk =>?_) (axE (K.bk_ok _ _ _ hb) s')
      exact aaB.2 (show pcW K (obS K) (rwS K) (.row c' (ys.set i.toNat x')) (aat ρ (.sl id)) k from ⟨(ρ.s id).a,(ρ.s id).c,by rw [aat,hk.1],hk.2⟩)
     have s1:Sat B w (dH K ρ (del H id)++(acI K ρ id (.hole c' ys i o u)::X)):=(s.imp (aaT (ρ:=ρ) hg)).perm (List.perm_middle (l₁:=dH K ρ (del H id))).symm
     split at h
     ·rename_i c2 y0 _
      split at h
      ·rename_i id2 p
       split at h
       ·split at h
        ·rename_i fs hg2
         split at h
         ·rename_i y H2 hown
          split at h
          ·rename_i x' hb
           cases h
           have s2:=avm ho hg2 hown s1
           have s3:Sat B w (pcS K (.own c2 y) (aat ρ (.ptr id2 0))::(dH K ρ H'++(acI K ρ id (.hole c' ys i o (.ptr id2 0))::X))):=abd (fun k hk =>aaB.2 (show pcW K (obS K) (rwS K) (.own c2 y) (aat ρ (.ptr id2 0)) k from ⟨ρ.p id2,rfl,hk⟩)) s2
           refine fin hb (s3.perm ?_)
           exact (List.Perm.cons _ (List.perm_middle (l₁:=dH K ρ H'))).trans (List.Perm.swap ..)
          ·cases h
         ·cases h
        ·cases h
       ·cases h
      ·cases h
     ·split at h
      ·rename_i id2
       split at h
       ·rename_i m hg2
        split at h
        ·rename_i x' hb
         cases h
         have s2:=s1.imp (aaT (ρ:=ρ) hg2)
         refine fin (f':=.mach m) hb (s2.perm ?_)
         exact (List.Perm.cons _ (List.perm_middle (l₁:=dH K ρ (del (del H id) id2)))).trans (List.Perm.swap ..)
        ·cases h
       ·cases h
      ·cases h
     ·cases h
    ·cases h
   ·cases h
  ·cases h
   have hr:∀ k,rwS K c [] none 0 k:=fun k =>acL.2 ⟨[],fun _ _ =>none,k,fun _ _ =>.inl rfl,by funext x y; rfl,awg _ _,trivial⟩
   exact aa5 s fun k =>aaB.2 (show pcW K (obS K) (rwS K) (.row c []) (.slice none 0 0) k from ⟨none,0,rfl,hr k⟩)
  ·cases h
 ·rename_i c x0
  split at h
  ·rename_i id o
   split at h
   ·split at h
    ·rename_i fs hg
     split at h
     ·rename_i x H2 hx
      cases h
      have s2:=avm ho hg hx s
      exact abd (fun k hk =>aaB.2 (show pcW K (obS K) (rwS K) (.own c x) (aat ρ (.ptr id 0)) k from ⟨ρ.p id,rfl,hk⟩)) s2
     ·cases h
    ·cases h
   ·cases h
  ·cases h
 ·split at h
  ·rename_i hb; cases h; exact aa5 s fun _ =>aaB.2 (show pcW K (obS K) (rwS K) .o (aat ρ v) _ from aIM hb)
  ·cases h
 ·split at h
  ·rename_i id
   split at h
   ·rename_i m hg
    cases h
    exact s.imp (aaT (ρ:=ρ) hg)
   ·cases h
  ·cases h
   exact aa5 s fun k =>aaB.2 (by simp only [pcW,K.nilM_ok]; rfl)
  ·rename_i t v
   split at h
   ·rename_i id o
    split at h
    ·split at h
     ·rename_i c hkd
      split at h
      ·rename_i fs hg
       split at h
       ·rename_i x H2 hx
        split at h
        ·rename_i m hm
         cases h
         have s2:=avm ho hg hx s
         refine abd (fun k hk =>aaB.2 ?_) s2
         simp only [pcW,K.mkM_ok _ _ _ hm]
         exact ⟨ρ.p id,by rw [K.kd_ok _ _ hkd]; rfl,hk⟩
        ·cases h
       ·cases h
      ·cases h
     ·cases h
    ·cases h
   ·cases h
  ·cases h
theorem aeW {A:List aad}:∀ {L:List aad} {h:Hp},abC (L++A) h→abC A h
 | [],_,s =>s
 | _::_,h,s =>aeW (Ent.drop h s)
theorem akA {α:Type _} (A B X:List α) (p:α):(A++(B++(p::X))).Perm (p::(A++(B++X))):=by
 rw [← List.append_assoc,← List.append_assoc]; exact List.perm_middle
theorem adl {α:Type _} (A B X:List α):(A++(B++X)).Perm (B++(A++X)):=by
 rw [← List.append_assoc,← List.append_assoc]; exact List.perm_append_comm.append_right _
theorem aaA {B:Nat} {w:World} {L:List aad} {p:Prop} (s:Sat B w ((fun _ =>False)::L)):p:=by
 obtain ⟨_,_,_,_,_,_,hf,_⟩:=s; exact hf.elim
theorem aiN {a:KT.H K→Fl K.T K.M→V→Option (Fl K.T K.M×KT.H K)} (ha:aFM K a):∀ {H:KT.H K} {es:List (Fl K.T K.M)} {fs:List (Fd K.T K.M)} {l:List (Fl K.T K.M)} {H':KT.H K},auU K a H es fs=some (l,H') →
  ∀ {ρ:Env} {X:List aad} {vs:List Value} {B:Nat} {w:World},Sat B w (fsS (fS K ρ) fs vs++(dH K ρ H++X))→Sat B w (fsS (pcS K) l vs++(dH K ρ H'++X))
 | H,[],[],l,H',h,ρ,X,vs,B,w,s =>by
  cases h
  cases vs with
  | nil =>exact s
  | cons v vs =>exact aaA s
 | H,e::es,.f x::fs,l,H',h,ρ,X,vs,B,w,s =>by
  unfold auU at h
  split at h
  ·rename_i l' H2 h2
   cases h
   cases vs with
   | nil =>exact aaA s
   | cons v vs =>
    have s1:Sat B w (fsS (fS K ρ) fs vs++(dH K ρ H++(pcS K x v::X))):=s.perm (akA (fsS (fS K ρ) fs vs) (dH K ρ H) X (pcS K x v)).symm
    have s2:=aiN ha h2 s1
    exact s2.perm (akA (fsS (pcS K) l' vs) (dH K ρ H') X (pcS K x v))
  ·cases h
 | H,e::es,.v u::fs,l,H',h,ρ,X,vs,B,w,s =>by
  unfold auU at h
  split at h
  ·rename_i x H1 h1
   split at h
   ·rename_i l' H2 h2
    cases h
    cases vs with
    | nil =>exact aaA s
    | cons v vs =>
     have hv:v=aat ρ u:=Sat.pure (show Sat B w (aod (v=aat ρ u)::(fsS (fS K ρ) fs vs++(dH K ρ H++X))) from s)
     have s0:Sat B w (fsS (fS K ρ) fs vs++(dH K ρ H++X)):=s.imp Ent.drop
     have s1:=ha _ _ _ _ _ h1 ρ (fsS (fS K ρ) fs vs++X) B w (s0.perm (adl (fsS (fS K ρ) fs vs) (dH K ρ H) X))
     have s2:Sat B w (fsS (fS K ρ) fs vs++(dH K ρ H1++(pcS K x v::X))):=s1.perm (by
      rw [← hv]
      exact (List.Perm.cons _ (adl (dH K ρ H1) (fsS (fS K ρ) fs vs) X)).trans (akA (fsS (fS K ρ) fs vs) (dH K ρ H1) X (pcS K x v)).symm)
     have s3:=aiN ha h2 s2
     exact s3.perm (akA (fsS (pcS K) l' vs) (dH K ρ H') X (pcS K x v))
   ·cases h
  ·cases h
 | _,[],_::_,_,_,h,_,_,_,_,_,_ =>by cases h
 | _,_::_,[],_,_,h,_,_,_,_,_,_ =>by cases h
theorem aAv:∀ f,aFL K (aIs K f)
 | 0 =>fun _ _ _ _ _ h =>by cases h
 | f+1 =>fun H c fs x H' h ρ X vs B w s =>by
  unfold aIs at h
  split at h
  ·rename_i l H2 hl
   split at h
   ·rename_i y hy
    cases h
    have:=aiN (aAt (aAv f)) hl s
    rw [K.bk_ok _ _ _ hy]
    exact this
   ·cases h
  ·cases h
theorem aqz:aFM K (asm K):=aAt (aAv _)
end
theorem aeb {sz:Nat}:∀ {vss:List (List Value)},(∀ vs∈vss,vs.length=sz)→vss.flatten.length=vss.length*sz
 | [],_ =>by simp
 | vs::vss,h =>by
  rw [List.flatten_cons,List.length_append,aeb (fun v hv =>h v (List.mem_cons_of_mem _ hv)),h vs (List.mem_cons_self ..),List.length_cons,Nat.add_mul]; omega
theorem aiA {sz:Nat}:∀ {vss:List (List Value)} {i o:Nat} {vs us:List Value},(∀ vs∈vss,vs.length=sz)→vss[i]?=some vs→o+us.length≤sz →
  (vss.set i (vs.take o++us++vs.drop (o+us.length))).flatten=vss.flatten.take (i*sz+o)++us++vss.flatten.drop (i*sz+o+us.length)
 | [],i,o,vs,us,_,h,_ =>by cases h
 | ws::vss,0,o,vs,us,hl,h,ho =>by
  simp at h; subst h
  have h0:=hl ws (List.mem_cons_self ..)
  simp only [List.set_cons_zero,List.flatten_cons,Nat.zero_mul,Nat.zero_add]
  rw [List.take_append_of_le_length (by omega),List.drop_append_of_le_length (by omega)]
  simp only [List.append_assoc]
 | ws::vss,i+1,o,vs,us,hl,h,ho =>by
  have h0:=hl ws (List.mem_cons_self ..)
  have ih:=aiA (vss:=vss) (i:=i) (o:=o) (vs:=vs) (us:=us) (fun v hv =>hl v (List.mem_cons_of_mem _ hv)) (by simpa using h) ho
  simp only [List.set_cons_succ,List.flatten_cons]
  rw [ih,show (i+1)*sz+o=ws.length+(i*sz+o) by rw [h0,Nat.add_mul]; omega]
  rw [List.take_length_add_append,Nat.add_assoc ws.length,List.drop_length_add_append]
  simp only [List.append_assoc]
theorem aiz {F:Type} {pc:F→Value→aad}:∀ {a b:List F} {x y:List Value},a.length=x.length→fsS pc (a++b) (x++y)=fsS pc a x++fsS pc b y
 | [],_,[],_,_ =>rfl
 | f::a,b,v::x,y,h =>by simp only [List.cons_append,fsS,aiz (a:=a) (x:=x) (by simpa using h)]
 | [],_,_::_,_,h =>by cases h
 | _::_,_,[],_,h =>by cases h
section
variable {P:Program} {B:Nat} {W:World}
theorem ays {T:TypeId} {v:Value} {b o m c sz i k:Nat} {vs us:List Value} {w:World} {L:List aad} (s:Sat B w (aef (some ⟨b,o,none⟩) m c sz vs::L)) (hb:Below B W w) (hl:B≤w.heap.size) (hT:P.cellsOf T=k) (hk:us.length=k) (hk0:0<k) (hv:v.cells.toList=us) (ha:us.all acK=true) (hi:i+k≤vs.length) :
  ∃ w',(storeVar T ⟨b,o+i,none⟩ v).run P w=.ok () w'∧Cls B W (aef (some ⟨b,o,none⟩) m c sz (vs.take i++us++vs.drop (i+k))::L) w':=by
 obtain ⟨h,Hh,k1,k2,ap,e,⟨h1,h2,h3,h4⟩,hM⟩:=s
 rcases h4 with ⟨h4,_⟩ | ⟨b',o',spare,hA,hsp,hp⟩
 ·cases h4
 ·cases hA
  have s':Sat B w (pts b o (vs++spare)::L):=⟨h,Hh,k1,k2,ap,e,hp,hM⟩
  obtain ⟨w',hr,c1,c2,c3⟩:=anP (P:=P) (T:=T) (v:=v) (W:=W) (o':=o+i) (i:=i) (k:=k) (us:=us) s' hb hl rfl hT hk hk0 hv ha (by rw [List.length_append]; omega)
  refine ⟨w',hr,c1,c2,c3.imp fun h =>aaM fun h hq =>?_⟩
  have e1:List.take i (vs++spare)++us++List.drop (i+k) (vs++spare)=(vs.take i++us++vs.drop (i+k))++spare:=by
   rw [List.take_append_of_le_length (by omega),List.drop_append_of_le_length (by omega)]
   simp only [List.append_assoc]
  rw [e1] at hq
  refine ⟨?_,h2,h3,.inr ⟨b,o,spare,rfl,hsp,hq⟩⟩
  rw [← h1]; simp only [List.length_append,List.length_take,List.length_drop]; omega
end
section
variable (K:KT)
def aFf (P:Program) (H:KT.H K) (T:TypeId) (x u:V):Option (KT.H K) :=
 match x with
 | .ptr id o =>match get H id with
  | some (.elt j i sz) =>match get H j with
   | some (.row c xs) =>match Nat.beq sz (K.sz c) && Nat.beq (P.cellsOf T) (aaD u).length && Nat.blt 0 (aaD u).length && Nat.ble (o+(aaD u).length) sz && (aaD u).all (scV (del H j)) with
    | true =>match auU K (asm K) (del H j) (((K.vw c (atL (K.df c) xs i)).drop o).take (aaD u).length) ((aaD u).map .v) with
     | some (l,H1) =>match K.bk c ((K.vw c (atL (K.df c) xs i)).take o++l++(K.vw c (atL (K.df c) xs i)).drop (o+(aaD u).length)) with
      | some x' =>some ((j,.row c (xs.set i.toNat x'))::H1)
      | none =>none
     | none =>none
    | false =>none
   | _ =>none
  | _ =>none
 | _ =>none
end
section
variable {K:KT} {P:Program} {nt n B:Nat} {W:World} {R:aaX} {Z H:KT.H K} {nx:Nat→KT.H K→V→Prop}
theorem aoX {a:KT.H K→Fl K.T K.M→V→Option (Fl K.T K.M×KT.H K)}:∀ {H:KT.H K} {es:List (Fl K.T K.M)} {fs:List (Fd K.T K.M)} {l:List (Fl K.T K.M)} {H':KT.H K},auU K a H es fs=some (l,H')→l.length=fs.length∧es.length=fs.length
 | H,[],[],l,H',h =>by cases h; exact ⟨rfl,rfl⟩
 | H,e::es,.f x::fs,l,H',h =>by
  unfold auU at h
  split at h
  ·rename_i h2; cases h; have:=aoX h2; simp [this]
  ·cases h
 | H,e::es,.v u::fs,l,H',h =>by
  unfold auU at h
  split at h
  ·split at h
   ·rename_i h2; cases h; have:=aoX h2; simp [this]
   ·cases h
  ·cases h
 | _,[],_::_,_,_,h =>by cases h
 | _,_::_,[],_,_,h =>by cases h
theorem auZ {o:Oper} {T:TypeId} {x y:Operand} {u v:V} {H':KT.H K} (ho:o.op=.store T x y) (hx:evO R x=some u) (hy:evO R y=some v) (h:aFf K P H T u v=some H') (hn:nx n H' (.c undef)):aed K P nt B W o R n Z H nx:=fun F ρ a w s =>by
 obtain ⟨d,op,ty,ps,af,g⟩:=o
 simp only at ho
 subst ho
 have ex:=(aaJ (ρ:=ρ) hx).eval s.regs
 have ey:=(aaJ (ρ:=ρ) hy).eval s.regs
 unfold aFf at h
 split at h
 ·rename_i id o'
  split at h
  ·rename_i j i sz hel
   split at h
   ·rename_i c xs hg
    split at h
    ·rename_i hB
     split at h
     ·rename_i l H1 hl
      split at h
      ·rename_i x' hbk
       cases h
       simp only [Bool.and_eq_true] at hB
       obtain ⟨⟨⟨⟨b0,b1⟩,b2⟩,b3⟩,b4⟩:=hB
       obtain rfl:=Nat.eq_of_beq_eq_true b0
       have b1':=Nat.eq_of_beq_eq_true b1
       have b2':0<(aaD v).length:=Nat.le_of_ble_eq_true b2
       have b3':=Nat.le_of_ble_eq_true b3
       obtain ⟨hi,b,o2,hA,hp⟩:=aup s.sat hel
       obtain ⟨hlen,vss,h2,h3,s2⟩:=aiU s.sat hg
       rw [hlen] at hi
       have hxi:=aeL (d:=K.df c) hi
       have hlt:i.toNat<vss.length:=by omega
       have hvs:vss[i.toNat]?=some vss[i.toNat]:=List.getElem?_eq_getElem hlt
       have hvl:=h3 _ (List.getElem_mem hlt)
       rw [hA] at s2
       -- what is stored
       have s3:Sat B w (dH K ρ (del H j)++(aef (some ⟨b,o2,none⟩) xs.length (ρ.s j).c (K.sz c) vss.flatten::(abY K (pcS K) c xs vss++tl K Z F ρ))):=s2.perm (by
        refine List.Perm.symm ?_
        refine (List.perm_middle (l₁:=dH K ρ (del H j))).trans (List.Perm.cons _ ?_)
        exact adl _ _ _)
       obtain ⟨hcl,hsc⟩:=amz b4 s3
       have hvlen:(aag ρ (aaD v)).length=(aaD v).length:=by rw [aaS]; simp
       have s4:=aiN aqz hl (ρ:=ρ) (X:=aef (some ⟨b,o2,none⟩) xs.length (ρ.s j).c (K.sz c) vss.flatten::(abY K (pcS K) c xs vss++tl K Z F ρ)) (vs:=aag ρ (aaD v)) (s3.imp fun k hk =>aiy hk)
       have s5:Sat B w (aef (some ⟨b,o2,none⟩) xs.length (ρ.s j).c (K.sz c) vss.flatten::(fsS (pcS K) l (aag ρ (aaD v))++(dH K ρ H1++(abY K (pcS K) c xs vss++tl K Z F ρ)))):=s4.perm (akA _ _ _ _)
       obtain ⟨w',hr,c1,c2,c3⟩:=ays (P:=P) (T:=T) (v:=aat ρ v) (W:=W) (i:=i.toNat*K.sz c+o') (k:=(aaD v).length) (us:=aag ρ (aaD v)) s5 s.below s.lo b1' hvlen b2' hcl hsc (by
        rw [aeb h3]
        have:(i.toNat+1)*K.sz c≤vss.length*K.sz c:=Nat.mul_le_mul_right _ hlt
        rw [Nat.add_mul] at this
        omega)
       have:(execOp a.eval ⟨d,.store T x y,ty,ps,af,g⟩).run P w=.ok .skip w':=by
        simp only [execOp,ex,ey,aat,Instr.storeAt,Instr.sureAddr,hp]
        rw [aaa (a:=()) (w':=w') (by
         rw [aaa (a:=(⟨b,o2+i.toNat*K.sz c+o',none⟩:Addr)) (w':=w) rfl]
         rw [Nat.add_assoc]; exact hr)]
        rfl
       rw [this]
       refine ⟨⟨ρ,n,_,.c undef⟩,rfl,⟨aay.refl _ _,Nat.le_refl _,rfl,hn⟩,c1,c2,?_⟩
       rw [← hvlen] at c3
       rw [← aiA h3 hvs (by omega)] at c3
       -- put together again
       obtain ⟨M,p1,p2⟩:=ahJ (pc:=pcS K) hxi hvs
       refine c3.imp fun k hk =>?_
       obtain ⟨k1,k2,a',e',g1,g2⟩:=hk
       have g3:abC ((fsS (pcS K) l (aag ρ (aaD v))++(fsS (pcS K) (K.vw c (atL (K.df c) xs i)) vss[i.toNat]++M))++(dH K ρ H1++tl K Z F ρ)) k2:=by
        refine abE ?_ g2
        rw [List.append_assoc]
        refine List.Perm.append_left _ ?_
        refine (adl _ _ _).trans ?_
        exact p1.append_right _
       have hes:(K.vw c (atL (K.df c) xs i)).length=(vss[i.toNat]).length:=by rw [K.sz_ok,hvl]
       have hol:o'+(aaD v).length≤(K.vw c (atL (K.df c) xs i)).length:=by rw [K.sz_ok]; exact b3'
       have hll:=(aoX hl).1
       rw [List.length_map] at hll
       -- the old cells' places in three
       have e1:fsS (pcS K) (K.vw c (atL (K.df c) xs i)) vss[i.toNat]=fsS (pcS K) ((K.vw c (atL (K.df c) xs i)).take o') ((vss[i.toNat]).take o')++(fsS (pcS K) (((K.vw c (atL (K.df c) xs i)).drop o').take (aaD v).length) (((vss[i.toNat]).drop o').take (aaD v).length)++fsS (pcS K) ((K.vw c (atL (K.df c) xs i)).drop (o'+(aaD v).length)) ((vss[i.toNat]).drop (o'+(aaD v).length))):=by
        conv =>lhs; rw [← List.take_append_drop o' (K.vw c (atL (K.df c) xs i)),← List.take_append_drop o' (vss[i.toNat]),aiz (by simp [hes])]
        conv =>lhs; arg 2; rw [← List.take_append_drop (aaD v).length ((K.vw c (atL (K.df c) xs i)).drop o'),← List.take_append_drop (aaD v).length ((vss[i.toNat]).drop o'),aiz (by simp [hes]),List.drop_drop,List.drop_drop]
       rw [e1] at g3
       have g4:abC ((fsS (pcS K) ((K.vw c (atL (K.df c) xs i)).take o') ((vss[i.toNat]).take o')++(fsS (pcS K) l (aag ρ (aaD v))++(fsS (pcS K) ((K.vw c (atL (K.df c) xs i)).drop (o'+(aaD v).length)) ((vss[i.toNat]).drop (o'+(aaD v).length))++M)))++(dH K ρ H1++tl K Z F ρ)) k2:=by
        have g5:abC (fsS (pcS K) (((K.vw c (atL (K.df c) xs i)).drop o').take (aaD v).length) (((vss[i.toNat]).drop o').take (aaD v).length)++((fsS (pcS K) ((K.vw c (atL (K.df c) xs i)).take o') ((vss[i.toNat]).take o')++(fsS (pcS K) l (aag ρ (aaD v))++(fsS (pcS K) ((K.vw c (atL (K.df c) xs i)).drop (o'+(aaD v).length)) ((vss[i.toNat]).drop (o'+(aaD v).length))++M)))++(dH K ρ H1++tl K Z F ρ))) k2:=by
         refine abE ?_ g3
         simp only [List.append_assoc]
         refine (adl _ _ _).trans ?_
         refine (List.Perm.append_left _ (adl _ _ _)).trans ?_
         exact adl _ _ _
        exact aeW g5
       have e2:fsS (pcS K) (K.vw c x') ((vss[i.toNat]).take o'++aag ρ (aaD v)++(vss[i.toNat]).drop (o'+(aag ρ (aaD v)).length))=fsS (pcS K) ((K.vw c (atL (K.df c) xs i)).take o') ((vss[i.toNat]).take o')++(fsS (pcS K) l (aag ρ (aaD v))++fsS (pcS K) ((K.vw c (atL (K.df c) xs i)).drop (o'+(aaD v).length)) ((vss[i.toNat]).drop (o'+(aaD v).length))):=by
        rw [K.bk_ok _ _ _ hbk,List.append_assoc,List.append_assoc,aiz (by simp [hes]),aiz (by rw [hvlen,hll]),hvlen]
       have g6:abC (abY K (pcS K) c (xs.set i.toNat x') (vss.set i.toNat ((vss[i.toNat]).take o'++aag ρ (aaD v)++(vss[i.toNat]).drop (o'+(aag ρ (aaD v)).length)))++(dH K ρ H1++tl K Z F ρ)) k2:=by
        refine abE (((p2 x' _).append_right _).symm) ?_
        rw [e2]
        simpa only [List.append_assoc] using g4
       have g7:abC ((aef (some ⟨b,o2,none⟩) (xs.set i.toNat x').length (ρ.s j).c (K.sz c) (vss.set i.toNat ((vss[i.toNat]).take o'++aag ρ (aaD v)++(vss[i.toNat]).drop (o'+(aag ρ (aaD v)).length))).flatten::abY K (pcS K) c (xs.set i.toNat x') (vss.set i.toNat ((vss[i.toNat]).take o'++aag ρ (aaD v)++(vss[i.toNat]).drop (o'+(aag ρ (aaD v)).length))))++(dH K ρ H1++tl K Z F ρ)) k:=⟨k1,k2,a',e',by rw [List.length_set]; exact g1,g6⟩
       obtain ⟨j1,j2,a'',e'',q1,q2⟩:=aal.1 g7
       exact ⟨j1,j2,a'',e'',⟨by rw [List.length_set]; exact hlen,acL.2 ⟨_,by rw [hA]; exact q1⟩⟩,q2⟩
      ·cases h
     ·cases h
    ·cases h
   ·cases h
  ·cases h
 ·cases h
end
end
end Go.Proofs.YtdnimkpfgjcjeaaGreat
