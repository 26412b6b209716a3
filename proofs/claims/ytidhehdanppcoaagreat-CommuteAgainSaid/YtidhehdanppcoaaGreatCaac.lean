/- Evaluation by itself,5: reading. No program occurs here. Evaluation by itself,6: loads,stores,memory of its own. No program occurs here. Evaluation by itself: what lies open is put together again. No program occurs here. Evaluation by itself: rows written,elements pointed at. No program occurs here. Evaluation by itself: aggregates,literal slices,elements,interfaces. No program occurs here. -/
import Derived.Test.YtidhehdanppcoaaGreatCaab
set_option linter.all false
namespace Go.Proofs.YtidhehdanppcoaaGreat
section
open Go Go.RowKit
structure Nx (K:KT) where
 ρ:Env
 n:Nat
 H:KT.H K
 v:V
def tl (K:KT) (Z:KT.H K) (F:aad) (ρ:Env):List aad:=dH K ρ Z++[F]
theorem acT {K:KT} {Z:KT.H K} {F:aad} {n:Nat} (h:afl Z≤n) {ρ ρ':Env} (ha:aay n ρ ρ'):tl K Z F ρ=tl K Z F ρ':=by unfold tl; rw [ab3 ha Z h]
abbrev dS (K:KT) (ρ:Env) (Z H:KT.H K) (F:aad):List aad:=dH K ρ H++tl K Z F ρ
def aeo (K:KT) (P:Program) (nt B:Nat) (W:World) (o:Oper) (R:aaZ) (n:Nat) (Z H:KT.H K) (nx:Nat→KT.H K→V→Prop):Prop :=
 ∀ F ρ a w,Sta nt B W (dR ρ R) (dS K ρ Z H F) a w→aia P (fun (x:Nx K) w' =>(aay n ρ x.ρ∧n≤x.n∧dR x.ρ R=dR ρ R∧nx x.n x.H x.v)∧Cls B W (dS K x.ρ Z x.H F) w') (fun x =>aau x.ρ x.v) ((execOp a.eval o).run P w)
section
variable {K:KT} {r:Option Nat} {P:Program} {ops:Array Oper} {Q:Exit→Act→World→Prop} {nt n B:Nat} {W:World} {R:aaZ} {Z H:KT.H K} {ρ:Env} {o:Oper} {rest:List Oper} {nx:Nat→KT.H K→V→Prop} {F:aad}
theorem aE3 (h:aeo K P nt B W o R n Z H nx) (hd:aFf nt o.dst=true) (hg:ajN ops (dR ρ R) o.guard true) (k:∀ ρ' n' H' v,aay n ρ ρ'→n≤n'→nx n' H' v→RT r P ops Q nt B W rest (dR ρ' (aqF R o.dst v)) (dS K ρ' Z H' F)):RT r P ops Q nt B W (o::rest) (dR ρ R) (dS K ρ Z H F):=fun a w s =>by
 unfold wpListIn
 rw [if_pos (hg.spec s.regs)]
 refine aoH (h F ρ a w s) fun x w' ⟨⟨ha,hn,hR,hx⟩,hw'⟩ =>?_
 have s1:Regs nt a (dR x.ρ R):=hR▸s.regs
 exact k x.ρ x.n x.H x.v ha hn hx _ _ (hw'.st (aeQ hd a s1))
def azN (H:KT.H K) (id:Nat):Option Nat:=match get H id with
 | some (.row _ xs) =>some xs.length
 | some (.ro _ xs) =>some xs.length
 | some (.rr _ xs) =>some xs.length
 | some (.hole _ xs _ _ _) =>some xs.length
 | some (.gap _ xs _ _) =>some xs.length
 | _ =>none
theorem ain {H:KT.H K} {id m:Nat} (h:azN H id=some m) {w:World} {X:List aad} (s:Sat B w (dH K ρ H++X)):(ρ.s id).n=m:=by
 unfold azN at h
 split at h
 ·rename_i hg
  cases h
  obtain ⟨hh,Hh,k1,k2,a,e,⟨h1',h2⟩,hL⟩:=s.imp (aaO (ρ:=ρ) hg)
  exact h1'
 ·rename_i hg
  cases h
  obtain ⟨hh,Hh,k1,k2,a,e,⟨h1',h2⟩,hL⟩:=s.imp (aaO (ρ:=ρ) hg)
  exact h1'
 ·rename_i hg
  cases h
  obtain ⟨hh,Hh,k1,k2,a,e,⟨h1',h2⟩,hL⟩:=s.imp (aaO (ρ:=ρ) hg)
  exact h1'
 ·rename_i hg
  cases h
  obtain ⟨hh,Hh,k1,k2,a,e,⟨h1',h2⟩,hL⟩:=s.imp (aaO (ρ:=ρ) hg)
  exact h1'
 ·rename_i hg
  cases h
  obtain ⟨hh,Hh,k1,k2,a,e,⟨_,_,_,_,_,_,⟨_,h1',_⟩,_⟩,hL⟩:=s.imp (aaO (ρ:=ρ) hg)
  exact h1'
 ·cases h
end
def atL {α:Type} (d:α) (xs:List α) (i:Int):α:=(xs[i.toNat]?).getD d
def scF {T:Nat→Type} {M:Type}:Fl T M→Option V
 | .i k x =>some (.i k x)
 | .b x =>some (.b x)
 | .c u =>some (aBg u)
 | _ =>none
section
variable {K:KT} {ρ:Env}
theorem aEV {f:Fl K.T K.M} {v:V} (h:scF f=some v):aau ρ v=flV f:=by
 cases f<;>simp [scF] at h<;>subst h<;>first | rfl | exact aix ..
theorem aHh {f:Fl K.T K.M} {v:V} {u:Value} {k:Hp} (h:scF f=some v) (hp:pcS K f u k):u=aau ρ v:=by
 rw [aaI] at hp
 cases f<;>simp [scF] at h<;>subst h<;>simp only [aau,aix]<;>exact hp
theorem aj6 {vss:List (List Value)} {sz:Nat} (hl:∀ vs∈vss,vs.length=sz):∀ {i o:Nat} {vs:List Value} {v:Value},vss[i]?=some vs→vs[o]?=some v→vss.flatten[i*sz+o]?=some v:=by
 induction vss with
 | nil =>intro i o vs v h; cases h
 | cons us vss ih =>
  intro i o vs v h h'
  have h0:=hl us (List.mem_cons_self ..)
  cases i with
  | zero =>
   simp at h; subst h
   rw [List.flatten_cons,Nat.zero_mul,Nat.zero_add,List.getElem?_append_left (List.getElem?_eq_some_iff.1 h').1]; exact h'
  | succ i =>
   rw [List.flatten_cons,List.getElem?_append_right (by rw [h0,Nat.add_mul]; omega)]
   have:=ih (fun vs h =>hl vs (List.mem_cons_of_mem _ h)) (i:=i) (by simpa using h) h'
   rw [← this]; congr 1; rw [h0,Nat.add_mul]; omega
theorem ahH {pc:Fl K.T K.M→Value→aad} {c:Nat}:∀ {xs:List (K.T c)} {vss:List (List Value)} {i:Nat} {x:K.T c} {vs:List Value},xs[i]?=some x→vss[i]?=some vs →
  ∃ M,(act K pc c xs vss).Perm (fsS pc (K.vw c x) vs++M)∧∀ x' vs',(act K pc c (xs.set i x') (vss.set i vs')).Perm (fsS pc (K.vw c x') vs'++M)
 | [],_,_,_,_,h,_ =>by cases h
 | _::_,[],_,_,_,_,h =>by cases h
 | g::xs,u::vss,0,x,vs,h,h' =>by
  simp at h h'; subst h h'
  exact ⟨act K pc c xs vss,.refl _,fun _ _ =>.refl _⟩
 | g::xs,u::vss,i+1,x,vs,h,h' =>by
  obtain ⟨M,h1,h2⟩:=ahH (pc:=pc) (xs:=xs) (vss:=vss) (i:=i) (by simpa using h) (by simpa using h')
  refine ⟨fsS pc (K.vw c g) u++M,?_,fun x' vs' =>?_⟩
  ·exact (h1.append_left _).trans (by rw [← List.append_assoc,← List.append_assoc]; exact List.perm_append_comm.append_right _)
  ·exact ((h2 x' vs').append_left _).trans (by rw [← List.append_assoc,← List.append_assoc]; exact List.perm_append_comm.append_right _)
theorem awi {pc:Fl K.T K.M→Value→aad} {c:Nat}:∀ {xs:List (K.T c)} {vss:List (List Value)} {L:List aad} {h:Hp},abY (act K pc c xs vss++L) h→xs.length=vss.length∧∀ (i:Nat) (x:K.T c) (vs:List Value),xs[i]?=some x→vss[i]?=some vs→(K.vw c x).length=vs.length
 | [],[],_,_,_ =>⟨rfl,fun _ _ _ h =>by cases h⟩
 | x::xs,vs::vss,L,h,s =>by
  have s':abY (fsS pc (K.vw c x) vs++(act K pc c xs vss++L)) h:=by simpa [act] using s
  have h1:=avx s'
  obtain ⟨k1,k2,a,e,_,s2⟩:=aal.1 s'
  obtain ⟨h2,h3⟩:=awi s2
  refine ⟨by simp [h2],fun i y us hy hu =>?_⟩
  cases i with
  | zero =>simp at hy hu; subst hy hu; exact h1
  | succ i =>exact h3 i y us (by simpa using hy) (by simpa using hu)
 | [],_::_,_,_,⟨_,_,_,_,hf,_⟩ =>hf.elim
 | _::_,[],_,_,⟨_,_,_,_,hf,_⟩ =>hf.elim
theorem aEZ {pc:Fl K.T K.M→Value→aad} {c:Nat} {xs:List (K.T c)} {vss:List (List Value)} {L:List aad} {h:Hp} (s:abY (act K pc c xs vss++L) h):xs.length=vss.length∧∀ vs∈vss,vs.length=K.sz c:=by
 obtain ⟨h1,h2⟩:=awi s
 refine ⟨h1,fun vs hv =>?_⟩
 obtain ⟨i,hi⟩:=List.mem_iff_getElem?.1 hv
 have hlt:i<xs.length:=by rw [h1]; exact (List.getElem?_eq_some_iff.1 hi).1
 rw [← h2 i _ vs (List.getElem?_eq_getElem hlt) hi,K.sz_ok]
theorem aku {B:Nat} {w:World} {H:KT.H K} {X:List aad} {j c:Nat} {xs:List (K.T c)} (s:Sat B w (dH K ρ H++X)) (hg:get H j=some (.row c xs)) :
  (ρ.s j).n=xs.length∧∃ vss:List (List Value),xs.length=vss.length∧(∀ vs∈vss,vs.length=K.sz c)∧Sat B w (ae5 (ρ.s j).a xs.length (ρ.s j).c (K.sz c) vss.flatten::(act K (pcS K) c xs vss++(dH K ρ (del H j)++X))):=by
 obtain ⟨h,Hh,k1,k2,a,e,⟨h1',h2⟩,hL⟩:=s.imp (aaO (ρ:=ρ) hg)
 rw [adl] at h2
 obtain ⟨vss,s2⟩:=h2
 have s3:abY ((ae5 (ρ.s j).a xs.length (ρ.s j).c (K.sz c) vss.flatten::act K (pcS K) c xs vss)++(dH K ρ (del H j)++X)) h:=aal.2 ⟨k1,k2,a,e,s2,hL⟩
 have h3:xs.length=vss.length∧∀ vs∈vss,vs.length=K.sz c:=by
  obtain ⟨q1,q2,a',e',_,hq⟩:=s2
  exact aEZ (L:=[]) (by simpa using hq)
 exact ⟨h1',vss,h3.1,h3.2,h,Hh,s3⟩
theorem at7 {B:Nat} {w:World} {H:KT.H K} {X:List aad} {id j sz:Nat} {i:Int} (s:Sat B w (dH K ρ H++X)) (hg:get H id=some (.elt j i sz)):avY ρ id j sz i:=(s.imp (aaO (ρ:=ρ) hg)).pure
theorem ae0 {α:Type} {d:α} {xs:List α} {i:Int} (h:0≤i∧i<(xs.length:Int)):xs[i.toNat]?=some (atL d xs i):=by
 have:i.toNat<xs.length:=by omega
 simp [atL,this]
theorem awm {B:Nat} {w:World} {H:KT.H K} {X:List aad} {id j c o:Nat} {i:Int} {xs:List (K.T c)} {f:Fl K.T K.M} (s:Sat B w (dH K ρ H++X)) (hg:get H j=some (.row c xs)) (he:avY ρ id j (K.sz c) i) (hf:(K.vw c (atL (K.df c) xs i))[o]?=some f) :
  ∃ v,w.cell? ⟨(ρ.p id).1,(ρ.p id).2+o,none⟩=some v∧∃ L,Sat B w (pcS K f v::L)∧Ent (pcS K f v::L) (acg K ρ j (.row c xs)::(dH K ρ (del H j)++X)):=by
 obtain ⟨h1',vss,h2,h3,s2⟩:=aku s hg
 obtain ⟨hi,b,o',hA,hp⟩:=he
 rw [h1'] at hi
 have hx:=ae0 (d:=K.df c) hi
 have hlt:i.toNat<vss.length:=by omega
 have hvs:vss[i.toNat]?=some vss[i.toNat]:=List.getElem?_eq_getElem hlt
 have hsz:=h3 _ (List.getElem_mem hlt)
 have hol:o<vss[i.toNat].length:=by rw [hsz,← K.sz_ok c (atL (K.df c) xs i)]; exact (List.getElem?_eq_some_iff.1 hf).1
 have hov:(vss[i.toNat])[o]?=some (vss[i.toNat])[o]:=List.getElem?_eq_getElem hol
 have hfl:=aj6 h3 hvs hov
 obtain ⟨r1,r2,r3,r4⟩:=afo s2 (List.mem_cons_self ..)
 refine ⟨(vss[i.toNat])[o],?_,?_⟩
 ·rcases r4 with ⟨r4,_⟩ | ⟨b2,o2,r4,r5⟩
  ·rw [r4] at hA; cases hA
  ·rw [r4] at hA
   cases hA
   rw [hp]
   have:=r5 _ _ hfl
   rw [← Nat.add_assoc] at this
   exact this
 ·obtain ⟨M,p1,_⟩:=ahH (pc:=pcS K) hx hvs
  have p2:=(aj4 (pc:=pcS K) hf hov).1
  have p3:=p1.trans (p2.append_right M)
  refine ⟨_,ayL s2 p3,fun k hk =>?_⟩
  have s5:abY ((ae5 (ρ.s j).a xs.length (ρ.s j).c (K.sz c) vss.flatten::act K (pcS K) c xs vss)++(dH K ρ (del H j)++X)) k:=by
   refine abV ?_ hk
   exact (List.Perm.swap ..).trans (List.Perm.cons _ (p3.symm.append_right _))
  obtain ⟨j1,j2,a'',e'',g1,g2⟩:=aal.1 s5
  exact ⟨j1,j2,a'',e'',⟨h1',adl.2 ⟨vss,g1⟩⟩,g2⟩
theorem aFa {B:Nat} {w:World} {H:KT.H K} {X:List aad} {id j c o:Nat} {i:Int} {xs:List (K.T c)} {f:Fl K.T K.M} (s:Sat B w (dH K ρ H++X)) (hg:get H j=some (.ro c xs)) (he:avY ρ id j (K.sz c) i) (hf:(K.vw c (atL (K.df c) xs i))[o]?=some f) :
  w.cell? ⟨(ρ.p id).1,(ρ.p id).2+o,none⟩=some (flV f):=by
 obtain ⟨h,Hh,k1,k2,a,e,⟨h1',h2⟩,hL⟩:=s.imp (aaO (ρ:=ρ) hg)
 have s2:Sat B w (roS (ae4 K c) (K.sz c) (ρ.s j).a (ρ.s j).c xs::(dH K ρ (del H j)++X)):=⟨h,Hh,k1,k2,a,e,h2,hL⟩
 obtain ⟨hi,b,o',hA,hp⟩:=he
 rw [h1'] at hi
 have hlt:i.toNat<xs.length:=by omega
 obtain ⟨b2,o2,hA2,_,hc⟩:=(auU s2 (List.mem_cons_self ..)).1.at_ hlt
 rw [hA] at hA2
 cases hA2
 have hx:=ae0 (d:=K.df c) hi
 have he2:xs[i.toNat]=atL (K.df c) xs i:=(List.getElem?_eq_some_iff.1 hx).2
 have:=hc i.toNat hlt o (flV f) (by rw [he2]; unfold ae4; rw [List.getElem?_map,hf]; rfl)
 rw [hp]; exact this
end
section
variable {K:KT} {ρ:Env}
theorem azY {B:Nat} {w:World} {H:KT.H K} {X:Env→List aad} {id j c o n:Nat} {i:Int} {xs:List (K.T c)} {f:Fl K.T K.M} {V0:V} {ch:Ch K.T K.M} (hop:opF K.vw n (.f f)=(V0,some ch)) (hn:afl H≤n) (hX:∀ ρ',aay n ρ ρ'→X ρ=X ρ')
  (s:Sat B w (dH K ρ H++X ρ)) (hg:get H j=some (.row c xs)) (he:avY ρ id j (K.sz c) i) (hf:(K.vw c (atL (K.df c) xs i))[o]?=some f) :
  ∃ ρ',aay n ρ ρ'∧Sat B w (dH K ρ' ((n,ch)::(j,.hole c xs i o V0)::del H j)++X ρ')∧w.cell? ⟨(ρ.p id).1,(ρ.p id).2+o,none⟩=some (aau ρ' V0):=by
 obtain ⟨h1',vss,h2,h3,s2⟩:=aku s hg
 obtain ⟨hi,b,o',hA,hp⟩:=he
 rw [h1'] at hi
 have hx:=ae0 (d:=K.df c) hi
 have hlt:i.toNat<vss.length:=by omega
 have hvs:vss[i.toNat]?=some vss[i.toNat]:=List.getElem?_eq_getElem hlt
 have hsz:=h3 _ (List.getElem_mem hlt)
 have hol:o<vss[i.toNat].length:=by rw [hsz,← K.sz_ok c (atL (K.df c) xs i)]; exact (List.getElem?_eq_some_iff.1 hf).1
 have hov:(vss[i.toNat])[o]?=some (vss[i.toNat])[o]:=List.getElem?_eq_getElem hol
 have hfl:=aj6 h3 hvs hov
 obtain ⟨r1,r2,r3,r4⟩:=afo s2 (List.mem_cons_self ..)
 have hcell:w.cell? ⟨(ρ.p id).1,(ρ.p id).2+o,none⟩=some (vss[i.toNat])[o]:=by
  rcases r4 with ⟨r4,_⟩ | ⟨b2,o2,r4,r5⟩
  ·rw [r4] at hA; cases hA
  ·rw [r4] at hA
   cases hA
   rw [hp]
   have:=r5 _ _ hfl
   rw [← Nat.add_assoc] at this
   exact this
 obtain ⟨M,p1,p1'⟩:=ahH (pc:=pcS K) hx hvs
 have p2:=(aj4 (pc:=pcS K) hf hov).1
 have p3:=p1.trans (p2.append_right M)
 have s3:Sat B w (pcS K f (vss[i.toNat])[o]::((ae5 (ρ.s j).a xs.length (ρ.s j).c (K.sz c) vss.flatten::(fsS (pcS K) ((K.vw c (atL (K.df c) xs i)).eraseIdx o) ((vss[i.toNat]).eraseIdx o)++M))++(dH K ρ (del H j)++X ρ))):=s2.perm (by
  refine (List.Perm.cons _ (p3.append_right _)).trans ?_
  exact List.Perm.swap ..)
 obtain ⟨hh,Hh,k1,k2,a,e,hA1,hL⟩:=s3
 have hfF:fS K ρ (.f f) (vss[i.toNat])[o] k1:=hA1
 obtain ⟨ρ',ha,hv,hd⟩:=azx (Nat.zero_le _) hfF
 rw [hop] at hv hd
 simp only at hv hd
 refine ⟨ρ',ha,?_,by rw [hcell,hv]⟩
 have hgt:=aic hg
 have hjn:j<n:=Nat.lt_of_lt_of_le hgt.1 hn
 obtain ⟨q1,q2,a',e',g1,g2⟩:=aal.1 hL
 rw [ab3 ha (del H j) (Nat.le_trans afk hn),hX _ ha] at g2
 refine ⟨hh,Hh,k1,k2,a,e,hd,q1,q2,a',e',⟨by rw [← (ha j hjn).2.1]; exact h1',?_⟩,g2⟩
 rw [← (ha j hjn).2.1]
 refine ⟨atL (K.df c) xs i,vss,vss[i.toNat],M,⟨hx,hvs,by rw [← hv]; exact hov⟩,fun x' =>?_,(List.getElem?_eq_some_iff.1 hf).1,g1⟩
 have:=p1' x' vss[i.toNat]
 rw [ari hvs] at this
 exact this
theorem axX {B:Nat} {w:World} {id c o:Nat} {i:Int} {xs:List (K.T c)} {u:V} {f':Fl K.T K.M} {x':K.T c} {L:List aad} (hx':K.vw c x'=(K.vw c (atL (K.df c) xs i)).set o f')
  (s:Sat B w (acg K ρ id (.hole c xs i o u)::pcS K f' (aau ρ u)::L)):Sat B w ((fun h =>(ρ.s id).n=(xs.set i.toNat x').length∧rwS K c (xs.set i.toNat x') (ρ.s id).a (ρ.s id).c h)::L):=by
 obtain ⟨hh,Hh,k1,k2,a,e,⟨h1,x,vss,vs,N,⟨hx,hvs,hov⟩,hp,ho,hst⟩,hL⟩:=s
 obtain rfl:x=atL (K.df c) xs i:=by unfold atL; rw [hx]; rfl
 have s2:abY ((ae5 (ρ.s id).a xs.length (ρ.s id).c (K.sz c) vss.flatten::(fsS (pcS K) ((K.vw c (atL (K.df c) xs i)).eraseIdx o) (vs.eraseIdx o)++N))++(pcS K f' (aau ρ u)::L)) hh:=aal.2 ⟨k1,k2,a,e,hst,hL⟩
 have hf:(K.vw c (atL (K.df c) xs i))[o]?=some (K.vw c (atL (K.df c) xs i))[o]:=List.getElem?_eq_getElem ho
 have p2:=(aj4 (pc:=pcS K) hf hov).2 f' (aau ρ u)
 rw [ari hov,← hx'] at p2
 have s3:abY ((ae5 (ρ.s id).a xs.length (ρ.s id).c (K.sz c) vss.flatten::act K (pcS K) c (xs.set i.toNat x') vss)++L) hh:=by
  refine abV ?_ s2
  refine List.Perm.cons _ ?_
  refine List.Perm.trans ?_ (((hp x').trans (p2.append_right N)).symm.append_right L)
  simp only [List.cons_append,List.append_assoc]
  exact (List.perm_middle (l₁:=fsS (pcS K) ((K.vw c (atL (K.df c) xs i)).eraseIdx o) (vs.eraseIdx o)++N)).trans (by rw [List.append_assoc])
 obtain ⟨j1,j2,a'',e'',g1,g2⟩:=aal.1 s3
 refine ⟨hh,Hh,j1,j2,a'',e'',⟨by rw [List.length_set]; exact h1,adl.2 ⟨vss,?_⟩⟩,g2⟩
 rw [List.length_set]; exact g1
end
section
variable (K:KT)
def opn (n:Nat) (H:KT.H K) (id o:Nat):Option (Bool×KT.H K×V) :=
 match get H id with
 | some (.cells fs) =>match fs[o]? with
  | some f =>match opF K.vw n f with
   | (v,none) =>some (false,H,v)
   | (v,some c) =>match Nat.ble (afl H) n with
    | true =>some (true,(n,c)::(id,.cells (fs.set o (.v v)))::del H id,v)
    | false =>none
  | none =>none
 | some (.elt j i sz) =>match get H j with
  | some (.row c xs) =>match Nat.beq sz (K.sz c) with
   | true =>match (K.vw c (atL (K.df c) xs i))[o]? with
    | some (.ro c' ys) =>match Nat.ble (afl H) n with
     | true =>some (true,(n,.ro c' ys)::(j,.row c xs)::del H j,.sl n)
     | false =>none
    | some f =>match scF f with
     | some v =>some (false,H,v)
     | none =>match opF K.vw n (.f f) with
      | (v,some ch) =>match Nat.ble (afl H) n with
       | true =>some (true,(n,ch)::(j,.hole c xs i o v)::del H j,v)
       | false =>none
      | (_,none) =>none
    | none =>none
   | false =>none
  | some (.ro c xs) =>match Nat.beq sz (K.sz c) with
   | true =>match (K.vw c (atL (K.df c) xs i))[o]? with
    | some f =>(scF f).map fun v =>(false,H,v)
    | none =>none
   | false =>none
  | some (.rr c xss) =>match Nat.beq sz 1 && Nat.beq o 0 && Nat.ble (afl H) n with
   | true =>some (true,(n,.ro c (atL [] xss i))::(j,.rr c xss)::del H j,.sl n)
   | false =>none
  | _ =>none
 | _ =>none
end
section
variable {K:KT}
theorem atH {n:Nat} {H H':KT.H K} {id o:Nat} {v:V} {ch:Bool} (h:opn K n H id o=some (ch,H',v)) {ρ:Env} {B:Nat} {w:World} {X:Env→List aad} (hX:ch=true→∀ ρ',aay n ρ ρ'→X ρ=X ρ') (s:Sat B w (dH K ρ H++X ρ)) :
  ∃ ρ',(aay n ρ ρ'∧(ch=false→ρ'=ρ))∧Sat B w (dH K ρ' H'++X ρ')∧w.cell? ⟨(ρ.p id).1,(ρ.p id).2+o,none⟩=some (aau ρ' v):=by
 unfold opn at h
 split at h
 ·rename_i fs hg
  split at h
  ·rename_i f hf
   obtain ⟨vs,u,hu,hl,s2,hc⟩:=aDd s hg hf
   have p1:=(aj4 (pc:=fS K ρ) hf hu).1
   have s3:=ayL s2 p1
   split at h
   ·rename_i v' hop
    cases h
    obtain ⟨hh,Hh,k1,k2,a,e,hA,hL⟩:=s3
    -- a value that brings nothing with it
    have key:u=aau ρ v:=by
     cases f with
     | v x =>cases hop; exact hA
     | f x =>
      have hp:pcS K x u k1:=hA
      cases x<;>simp only [opF,Prod.mk.injEq,reduceCtorEq,and_false,and_true] at hop<;>subst hop<;>rw [aaI] at hp<;>simp only [aau,aix]<;>exact hp
    exact ⟨ρ,⟨aay.refl _ _,fun _ =>rfl⟩,s,by rw [hc,key]⟩
   ·rename_i v' c hop
    split at h
    ·rename_i hb
     cases h
     have hn:afl H≤n:=Nat.le_of_ble_eq_true hb
     have hgt:=aic hg
     obtain ⟨hh,Hh,k1,k2,a,e,hA,hL⟩:=s3
     have hft:aDF f≤n:=Nat.le_trans (ayq hf) (Nat.le_trans hgt.2 hn)
     obtain ⟨ρ',ha,hv,hd⟩:=azx hft hA
     rw [hop] at hv hd
     simp only at hv hd
     refine ⟨ρ',⟨ha,fun e =>by cases e⟩,?_,by rw [hc,hv]⟩
     have hid:id<n:=Nat.lt_of_lt_of_le hgt.1 hn
     have e0:=apP ha (fs.eraseIdx o) (vs.eraseIdx o) (Nat.le_trans aoQ (Nat.le_trans hgt.2 hn))
     have e1:dH K ρ (del H id)=dH K ρ' (del H id):=ab3 ha _ (Nat.le_trans afk hn)
     rw [e0,e1,(ha id hid).1,hX rfl _ ha] at hL
     have p2:=(aj4 (pc:=fS K ρ') hf hu).2 (.v v) u
     rw [ari hu] at p2
     refine ⟨hh,Hh,k1,k2,a,e,hd,?_⟩
     obtain ⟨q1,q2,a',e',hp,hq⟩:=hL
     have s6:abY ((pts (ρ'.p id).1 (ρ'.p id).2 vs::fsS (fS K ρ') (fs.set o (.v v)) vs)++(dH K ρ' (del H id)++X ρ')) k2:=by
      refine ⟨q1,q2,a',e',hp,abV (p2.symm.append_right _) ?_⟩
      exact (apV (L:=fsS (fS K ρ') (fs.eraseIdx o) (vs.eraseIdx o)++(dH K ρ' (del H id)++X ρ')) hv) q2 hq
     obtain ⟨j1,j2,a'',e'',g1,g2⟩:=aal.1 s6
     exact ⟨j1,j2,a'',e'',⟨vs,g1⟩,g2⟩
    ·cases h
  ·cases h
 ·rename_i j i sz hj0
  have he0:=at7 s hj0
  split at h
  ·rename_i c xs hj
   split at h
   ·rename_i hsz
    obtain rfl:=Nat.eq_of_beq_eq_true hsz
    have he:=he0
    split at h
    ·rename_i c' ys hf
     split at h
     ·rename_i hb
      cases h
      have hn:afl H≤n:=Nat.le_of_ble_eq_true hb
      obtain ⟨u,hc,L,s2,back⟩:=awm s hj he hf
      have hgt:=aic hj
      have hjn:j<n:=Nat.lt_of_lt_of_le hgt.1 hn
      obtain ⟨hh,Hh,k1,k2,a,e,hA,hL⟩:=s2
      have hA':=hA
      rw [aaI] at hA'
      obtain ⟨A,cap,hu,hro⟩:=hA'
      have s3:Sat B w (roS (ae4 K c') (K.sz c') A cap ys::L):=⟨hh,Hh,k1,k2,a,e,hro,hL⟩
      have ha:=acj ρ n ⟨A,ys.length,cap⟩
      have e1:dH K ρ (del H j)=dH K (ρ.setS n ⟨A,ys.length,cap⟩) (del H j):=ab3 ha _ (Nat.le_trans afk hn)
      have e2:acg K ρ j (.row c xs)=acg K (ρ.setS n ⟨A,ys.length,cap⟩) j (.row c xs):=adD ha hjn _ (Nat.le_trans hgt.2 hn)
      refine ⟨_,⟨ha,fun e =>by cases e⟩,?_,by rw [hc,hu]; simp [aau,Env.setS]⟩
      have s4:=s3.imp ayT
      refine s4.imp fun k hk =>?_
      refine aaL (fun k hk =>?_) (abu (fun k hk =>?_) hk)
      ·exact ⟨by simp [Env.setS],by simpa [Env.setS] using hk⟩
      ·have fold:∀ q:Hp,roS (ae4 K c') (K.sz c') A cap ys q→pcS K (.ro c' ys) u q:=fun q hq =>(aaI (K:=K)).2 (show pcW K (obS K) (rwS K) (.ro c' ys) u q from ⟨A,cap,hu,hq⟩)
       have:=back k (aaL fold hk)
       rw [e1,e2,hX rfl _ ha] at this
       exact this
     ·cases h
    ·rename_i f _ hf
     split at h
     ·rename_i v' hv
      cases h
      obtain ⟨u,hc,L,⟨hh,Hh,k1,k2,a,e,hA,hL⟩,_⟩:=awm s hj he hf
      exact ⟨ρ,⟨aay.refl _ _,fun _ =>rfl⟩,s,by rw [hc,aHh hv hA]⟩
     ·split at h
      ·rename_i v' ch' hop
       split at h
       ·rename_i hb
        cases h
        obtain ⟨ρ',ha,hs,hc⟩:=azY hop (Nat.le_of_ble_eq_true hb) (hX rfl) s hj he hf
        exact ⟨ρ',⟨ha,fun e =>by cases e⟩,hs,hc⟩
       ·cases h
      ·cases h
    ·cases h
   ·cases h
  ·rename_i c xs hj
   split at h
   ·rename_i hsz
    obtain rfl:=Nat.eq_of_beq_eq_true hsz
    have he:=he0
    split at h
    ·rename_i f hf
     simp only [Option.map_eq_some_iff,Prod.mk.injEq] at h
     obtain ⟨v',hv,rfl,rfl,rfl⟩:=h
     exact ⟨ρ,⟨aay.refl _ _,fun _ =>rfl⟩,s,by rw [aFa s hj he hf,aEV hv]⟩
    ·cases h
   ·cases h
  ·rename_i c xss hj
   split at h
   ·rename_i hB
    cases h
    simp only [Bool.and_eq_true] at hB
    obtain ⟨⟨b1,b2⟩,b3⟩:=hB
    obtain rfl:=Nat.eq_of_beq_eq_true b1
    obtain rfl:=Nat.eq_of_beq_eq_true b2
    have hn:afl H≤n:=Nat.le_of_ble_eq_true b3
    have hgt:=aic hj
    have hjn:j<n:=Nat.lt_of_lt_of_le hgt.1 hn
    obtain ⟨hi,b,o',hA,hp⟩:=he0
    obtain ⟨hh,Hh,k1,k2,a,e,⟨h1',ps,h2⟩,hL⟩:=s.imp (aaO (ρ:=ρ) hj)
    rw [h1'] at hi
    have hx:=ae0 (d:=([]:List (K.T c))) hi
    have s2:Sat B w (ae2 _::(dH K ρ (del H j)++X ρ)):=⟨hh,Hh,k1,k2,a,e,h2,hL⟩
    obtain ⟨q,hq,_,b2,o2,hA2,_,hc⟩:=(alK s2 (List.mem_cons_self ..)).2 _ _ hx
    rw [hA] at hA2
    cases hA2
    have ha:=acj ρ n ⟨q.1,(atL [] xss i).length,q.2⟩
    have e1:dH K ρ (del H j)=dH K (ρ.setS n ⟨q.1,(atL [] xss i).length,q.2⟩) (del H j):=ab3 ha _ (Nat.le_trans afk hn)
    refine ⟨_,⟨ha,fun e =>by cases e⟩,?_,by rw [hp,Nat.mul_one,Nat.add_zero,hc]; simp [aau,Env.setS]⟩
    have s3:=s2.imp alL
    refine s3.imp fun k hk =>?_
    rw [e1,hX rfl _ ha] at hk
    refine aaL (fun k hk =>?_) (abu (fun k hk =>aaL (fun k hk =>?_) hk) hk)
    ·refine ⟨by simp [Env.setS],?_⟩
     have:=adT (Ψ:=fun u =>Sl (ae4 K c) (K.sz c) u u.heap.size q.1 (atL [] xss i)∧(atL [] xss i).length≤q.2) (fun u hu =>by
      obtain ⟨q',hq',hs,_⟩:=hu.2 _ _ hx
      rw [hq] at hq'
      cases hq'
      exact hs) k hk
     have this2:roS (ae4 K c) (K.sz c) q.1 q.2 (atL [] xss i) k:=this
     simpa [Env.setS] using this2
    ·have hjn':j≠n:=by omega
     exact ⟨by simpa [Env.setS,hjn'] using h1',ps,by simpa [Env.setS,hjn'] using hk⟩
   ·cases h
  ·cases h
 ·cases h
end
section
variable (K:KT)
def aHP:Nat→Nat→KT.H K→Nat→Nat→Option (Bool×KT.H K×List V)
 | 0,_,H,_,_ =>some (false,H,[])
 | k+1,n,H,id,o =>match opn K n H id o with
  | some (ch,H',v) =>match Nat.ble (ai4 v) (n+1) with
   | true =>match Nat.blt id n with
    | true =>match aHP k (n+1) H' id (o+1) with
     | some (ch',H'',l) =>some (ch || ch',H'',v::l)
     | none =>none
    | false =>none
   | false =>none
  | none =>none
end
section
variable {K:KT}
theorem arM:∀ {k n:Nat} {H H':KT.H K} {id o:Nat} {l:List V} {ch:Bool} {ρ:Env} {B:Nat} {w:World} {X:Env→List aad},(ch=true→∀ ρ ρ',aay n ρ ρ'→X ρ=X ρ')→aHP K k n H id o=some (ch,H',l)→Sat B w (dH K ρ H++X ρ) →
  ∃ ρ',(aay n ρ ρ'∧(ch=false→ρ'=ρ))∧Sat B w (dH K ρ' H'++X ρ')∧l.length=k∧∀ j v,(aag ρ' l)[j]?=some v→w.cell? ⟨(ρ.p id).1,(ρ.p id).2+o+j,none⟩=some v
 | 0,n,H,H',id,o,l,ch,ρ,B,w,X,hX,h,s =>by
  cases h
  exact ⟨ρ,⟨aay.refl _ _,fun _ =>rfl⟩,s,rfl,fun j v hj =>by simp [aag] at hj⟩
 | k+1,n,H,H',id,o,l,ch,ρ,B,w,X,hX,h,s =>by
  unfold aHP at h
  split at h
  ·rename_i ch1 H1 v h1
   split at h
   ·rename_i ht
    split at h
    ·rename_i hid
     split at h
     ·rename_i ch2 H2 l2 h2
      cases h
      have ht':ai4 v≤n+1:=Nat.le_of_ble_eq_true ht
      have hid':id<n:=Nat.le_of_ble_eq_true hid
      obtain ⟨ρ1,⟨a1,e1⟩,s1,c1⟩:=atH h1 (fun hc ρ' =>hX (by rw [hc]; rfl) _ ρ') s
      obtain ⟨ρ2,⟨a2,e2⟩,s2,hl,c2⟩:=arM (fun hc ρ ρ' ha =>hX (by rw [hc,Bool.or_true]) _ _ (ha.le (Nat.le_succ n))) h2 s1
      refine ⟨ρ2,⟨a1.trans a2 (Nat.le_succ n),fun hc =>?_⟩,s2,by simp [hl],fun j u hj =>?_⟩
      ·simp only [Bool.or_eq_false_iff] at hc
       rw [e2 hc.2,e1 hc.1]
      ·cases j with
       | zero =>
        simp only [aag,List.getElem?_cons_zero,Option.some.injEq] at hj
        rw [← hj,← abf a2 v ht']
        exact c1
       | succ j =>
        simp only [aag,List.getElem?_cons_succ] at hj
        have:=c2 j u hj
        rw [← (a1 id hid').1] at this
        rw [← this]; congr 2; omega
     ·cases h
    ·cases h
   ·cases h
  ·cases h
end
section
variable (K:KT)
def aJq (P:Program) (R:aaZ) (n:Nat) (Z H:KT.H K) (T:TypeId) (x:V):Option (Nat×KT.H K×V) :=
 match x with
 | .ptr id o =>match ae1 P T with
  | some none =>match opn K n H id o with
   | some (false,H',v) =>some (n,H',v)
   | some (true,H',v) =>match Nat.ble (av8 R) n && Nat.ble (afl Z) n with
    | true =>some (n+1,H',v)
    | false =>none
   | none =>none
  | some (some k) =>match aHP K k n H id o with
   | some (false,H',l) =>some (n,H',.agg l)
   | some (true,H',l) =>match Nat.ble (av8 R) n && Nat.ble (afl Z) n with
    | true =>some (n+k,H',.agg l)
    | false =>none
   | none =>none
  | none =>none
 | _ =>none
end
section
variable {K:KT} {P:Program} {nt n B:Nat} {W:World} {R:aaZ} {Z H:KT.H K} {nx:Nat→KT.H K→V→Prop}
theorem ajs {w:World} {b o:Nat} {T:TypeId} {v:Value} (ht:ae1 P T=some none) (h:w.cell? ⟨b,o,none⟩=some v):(Instr.loadAt T (.pointer (some ⟨b,o,none⟩))).run P w=.ok v w :=
 aj0 (us:=[v]) ht rfl (fun j u hj =>by
  cases j with
  | zero =>simp at hj; subst hj; exact h
  | succ j =>simp at hj) rfl
theorem as5 {o:Oper} {T:TypeId} {x:Operand} {u v:V} {n':Nat} {H':KT.H K} (ho:o.op=.load T x) (hx:evO R x=some u) (h:aJq K P R n Z H T u=some (n',H',v)) (hn:nx n' H' v):aeo K P nt B W o R n Z H nx:=fun F ρ a w s =>by
 obtain ⟨d,op,ty,ps,af,g⟩:=o
 simp only at ho
 subst ho
 have ex:=(aaH (ρ:=ρ) hx).eval s.regs
 unfold aJq at h
 split at h
 ·rename_i id o'
  have fin:∀ (ρ':Env) (vv:V) (nn:Nat) (HH:KT.H K),n≤nn→aay n ρ ρ'→dR ρ' R=dR ρ R→Sat B w (dS K ρ' Z HH F)→nx nn HH vv→(Instr.loadAt T (.pointer (some ⟨(ρ.p id).1,(ρ.p id).2+o',none⟩))).run P w=.ok (aau ρ' vv) w →
    aia P (fun (x:Nx K) w' =>(aay n ρ x.ρ∧n≤x.n∧dR x.ρ R=dR ρ R∧nx x.n x.H x.v)∧Cls B W (dS K x.ρ Z x.H F) w') (fun x =>aau x.ρ x.v) ((execOp a.eval ⟨d,.load T x,ty,ps,af,g⟩).run P w):=by
   intro ρ' vv nn HH h1 h2 h3 h4 h5 h6
   have:(execOp a.eval ⟨d,.load T x,ty,ps,af,g⟩).run P w=.ok (.value (aau ρ' vv)) w:=by
    simp only [execOp,ex,aau]
    rw [aaa h6]; rfl
   rw [this]
   exact ⟨⟨ρ',nn,HH,vv⟩,rfl,⟨h2,h1,h3,h5⟩,s.below,s.lo,h4⟩
  split at h
  ·rename_i hT
   split at h
   ·rename_i h1
    cases h
    obtain ⟨ρ',⟨ha,he⟩,s1,hc⟩:=atH (X:=tl K Z F) h1 (fun e =>by cases e) s.sat
    obtain rfl:=he rfl
    exact fin _ _ _ _ (Nat.le_refl _) ha rfl s1 hn (ajs hT hc)
   ·rename_i h1
    split at h
    ·rename_i hR
     cases h
     simp only [Bool.and_eq_true] at hR
     obtain ⟨ρ',⟨ha,he⟩,s1,hc⟩:=atH (X:=tl K Z F) h1 (fun _ ρ' ha =>acT (Nat.le_of_ble_eq_true hR.2) ha) s.sat
     exact fin _ _ _ _ (Nat.le_succ _) ha (abU ha _ (Nat.le_of_ble_eq_true hR.1)).symm s1 hn (ajs hT hc)
    ·cases h
   ·cases h
  ·rename_i k hT
   split at h
   ·rename_i h1
    cases h
    obtain ⟨ρ',⟨ha,he⟩,s1,hl,hc⟩:=arM (X:=tl K Z F) (fun e =>by cases e) h1 s.sat
    obtain rfl:=he rfl
    exact fin _ _ _ _ (Nat.le_refl _) ha rfl s1 hn (aj0 hT (by rw [aaR]; simpa using hl) hc rfl)
   ·rename_i h1
    split at h
    ·rename_i hR
     cases h
     simp only [Bool.and_eq_true] at hR
     obtain ⟨ρ',⟨ha,he⟩,s1,hl,hc⟩:=arM (X:=tl K Z F) (fun _ _ _ ha =>acT (Nat.le_of_ble_eq_true hR.2) ha) h1 s.sat
     exact fin _ _ _ _ (Nat.le_add_right ..) ha (abU ha _ (Nat.le_of_ble_eq_true hR.1)).symm s1 hn (aj0 hT (by rw [aaR]; simpa using hl) hc rfl)
    ·cases h
   ·cases h
  ·cases h
 ·cases h
end
def aaD:V→List V
 | .agg l =>l
 | v =>[v]
section
variable {K:KT}
def scV (H:KT.H K):V→Bool
 | .agg _ =>false
 | .tup _ =>false
 | .c v =>adw v
 | .mc id =>match get H id with
  | some (.mach _) =>true
  | some (.mp ..) =>true
  | _ =>false
 | _ =>true
def aBb {T:Nat→Type} {M:Type} (fs:List (Fd T M)) (o:Nat) (us:List V):List (Fd T M):=fs.take o++us.map .v++fs.drop (o+us.length)
theorem ar6 {ρ:Env}:∀ {us:List V} {o:Nat} {fs:List (Fd K.T K.M)} {vs:List Value} {L:List aad} {h:Hp},o+us.length≤fs.length→fs.length=vs.length→abY (fsS (fS K ρ) fs vs++L) h →
  abY (fsS (fS K ρ) (aBb fs o us) (vs.take o++aag ρ us++vs.drop (o+us.length))++L) h
 | us,o+1,[],vs,L,h,h1,_,_ =>by simp at h1
 | us,o+1,f::fs,[],L,h,_,h2,_ =>by simp at h2
 | us,o+1,f::fs,v::vs,L,h,h1,h2,s =>by
  have e1:aBb (f::fs) (o+1) us=f::aBb fs o us:=by simp [aBb,Nat.add_right_comm o 1]
  have e2:(v::vs).take (o+1)++aag ρ us++(v::vs).drop (o+1+us.length)=v::(vs.take o++aag ρ us++vs.drop (o+us.length)):=by simp [Nat.add_right_comm o 1]
  rw [e1,e2]
  simp only [fsS,List.cons_append] at s ⊢
  exact abu (fun k hk =>ar6 (by simp at h1; omega) (by simpa using h2) hk) s
 | [],0,fs,vs,L,h,_,_,s =>by simpa [aBb,aag] using s
 | u::us,0,[],vs,L,h,h1,_,_ =>by simp at h1
 | u::us,0,f::fs,[],L,h,_,h2,_ =>by simp at h2
 | u::us,0,f::fs,v::vs,L,h,h1,h2,s =>by
  have e1:aBb (f::fs) 0 (u::us)=.v u::aBb fs 0 us:=by simp [aBb]
  have e2:(v::vs).take 0++aag ρ (u::us)++(v::vs).drop (0+(u::us).length)=aau ρ u::(vs.take 0++aag ρ us++vs.drop (0+us.length)):=by simp [aag]
  rw [e1,e2]
  simp only [fsS,List.cons_append] at s ⊢
  have s1:=Ent.drop h s
  exact apV (p:=aau ρ u=aau ρ u) rfl h (ar6 (us:=us) (o:=0) (by simp at h1 ⊢; omega) (by simpa using h2) s1)
theorem ayK {ρ:Env} {H:KT.H K} {X:List aad} {B:Nat} {w:World} {v:V} (h:scV H v=true) (s:Sat B w (dH K ρ H++X)):adw (aau ρ v)=true:=by
 cases v<;>first | rfl | (cases h; done) | exact h | skip
 rename_i id
 simp only [scV] at h
 split at h
 ·rename_i m hg
  obtain ⟨hh,Hh,k1,k2,a,e,hA,hL⟩:=s.imp (aaO (ρ:=ρ) hg)
  have hA':pcS K (.mach m) (ρ.v id) k1:=hA
  rw [aaI] at hA'
  simp only [pcW] at hA'
  simp only [aau]
  split at hA'
  ·rw [hA']; rfl
  ·obtain ⟨q,e',_⟩:=hA'; rw [e']; rfl
 ·rename_i c ag m hg
  obtain ⟨hh,Hh,k1,k2,a,e,hA,hL⟩:=s.imp (aaO (ρ:=ρ) hg)
  have hA':pcS K (.mp c ag m) (ρ.v id) k1:=hA
  rw [aaI] at hA'
  obtain ⟨b,e',_⟩:=hA'
  simp only [aau]
  rw [e']; rfl
 ·cases h
theorem atd {v:Value} (h:adw v=true):v.cells.toList=[v]:=by cases v<;>simp [adw] at h<;>rfl
theorem amg {ρ:Env} {H:KT.H K} {X:List aad} {B:Nat} {w:World} {v:V} (h:(aaD v).all (scV H)=true) (s:Sat B w (dH K ρ H++X)):(aau ρ v).cells.toList=aag ρ (aaD v)∧(aag ρ (aaD v)).all adw=true:=by
 have h2:(aag ρ (aaD v)).all adw=true:=by
  rw [aaR,List.all_map,List.all_eq_true]
  intro x hx
  exact ayK (List.all_eq_true.1 h x hx) s
 refine ⟨?_,h2⟩
 cases v with
 | agg l =>simp [aau,Value.cells,aaD]
 | _ =>exact atd (by simpa [aaD,aag] using h2)
end
section
variable (K:KT)
def aJp (P:Program) (H:KT.H K) (T:TypeId) (x u:V):Option (KT.H K) :=
 match x with
 | .ptr id o =>match get H id with
  | some (.cells fs) =>match Nat.beq (P.cellsOf T) (aaD u).length && Nat.blt 0 (aaD u).length && Nat.ble (o+(aaD u).length) fs.length && (aaD u).all (scV H) with
   | true =>some ((id,.cells (aBb fs o (aaD u)))::del H id)
   | false =>none
  | _ =>none
 | _ =>none
end
section
variable {K:KT} {P:Program} {nt n B:Nat} {W:World} {R:aaZ} {Z H:KT.H K} {nx:Nat→KT.H K→V→Prop}
theorem aqw {o:Oper} {T:TypeId} {x y:Operand} {u v:V} {H':KT.H K} (ho:o.op=.store T x y) (hx:evO R x=some u) (hy:evO R y=some v) (h:aJp K P H T u v=some H') (hn:nx n H' (.c undef)):aeo K P nt B W o R n Z H nx:=fun F ρ a w s =>by
 obtain ⟨d,op,ty,ps,af,g⟩:=o
 simp only at ho
 subst ho
 have ex:=(aaH (ρ:=ρ) hx).eval s.regs
 have ey:=(aaH (ρ:=ρ) hy).eval s.regs
 unfold aJp at h
 split at h
 ·rename_i id o'
  split at h
  ·rename_i fs hg
   split at h
   ·rename_i hB
    cases h
    simp only [Bool.and_eq_true] at hB
    obtain ⟨⟨⟨b1,b2⟩,b3⟩,b4⟩:=hB
    have b1':=Nat.eq_of_beq_eq_true b1
    have b2':0<(aaD v).length:=Nat.le_of_ble_eq_true b2
    have b3':=Nat.le_of_ble_eq_true b3
    obtain ⟨hcl,hsc⟩:=amg b4 s.sat
    obtain ⟨vs,s2⟩:=ag3 (s.sat.imp (aaO (ρ:=ρ) hg))
    have hl:=aja s2
    have hlen:(aag ρ (aaD v)).length=(aaD v).length:=by rw [aaR]; simp
    obtain ⟨w',hr,c1,c2,c3⟩:=ant (P:=P) (T:=T) (v:=aau ρ v) (W:=W) (o':=(ρ.p id).2+o') (i:=o') (k:=(aaD v).length) (us:=aag ρ (aaD v)) s2 s.below s.lo rfl b1' hlen b2' hcl hsc (by omega)
    have:(execOp a.eval ⟨d,.store T x y,ty,ps,af,g⟩).run P w=.ok .skip w':=by
     simp only [execOp,ex,ey,aau,Instr.storeAt,Instr.sureAddr]
     rw [aaa (a:=()) (w':=w') (by rw [aaa (a:=(⟨(ρ.p id).1,(ρ.p id).2+o',none⟩:Addr)) (w':=w) rfl]; exact hr)]
     rfl
    rw [this]
    refine ⟨⟨ρ,n,_,.c undef⟩,rfl,⟨aay.refl _ _,Nat.le_refl _,rfl,hn⟩,c1,c2,c3.imp fun h hk =>?_⟩
    obtain ⟨k1,k2,a',e',hp,hq⟩:=hk
    have hq2:=ar6 (us:=aaD v) (o:=o') b3' hl hq
    have s6:abY ((pts (ρ.p id).1 (ρ.p id).2 (vs.take o'++aag ρ (aaD v)++vs.drop (o'+(aaD v).length))::fsS (fS K ρ) (aBb fs o' (aaD v)) (vs.take o'++aag ρ (aaD v)++vs.drop (o'+(aaD v).length)))++(dH K ρ (del H id)++tl K Z F ρ)) h:=⟨k1,k2,a',e',hp,hq2⟩
    obtain ⟨j1,j2,a'',e'',g1,g2⟩:=aal.1 s6
    exact ⟨j1,j2,a'',e'',⟨_,g1⟩,g2⟩
   ·cases h
  ·cases h
 ·cases h
end
section
variable (K:KT)
def abW (R:aaZ) (n:Nat) (Z H:KT.H K):Bool:=Nat.ble (av8 R) n && Nat.ble (afl Z) n && Nat.ble (afl H) n
def aGQ (R:aaZ) (n:Nat) (Z H:KT.H K) (vs:List V):Option (Nat×KT.H K×V) :=
 match abW K R n Z H && Nat.ble (aib vs) n with
 | true =>some (n+1,(n,.cells (vs.map .v))::H,.ptr n 0)
 | false =>none
def auI (P:Program) (T:TypeId):Option (List V):=(av0 P T).map fun z =>z.cells.toList.map aBg
end
section
variable {K:KT} {P:Program} {nt n B:Nat} {W:World} {R:aaZ} {Z H:KT.H K} {nx:Nat→KT.H K→V→Prop}
theorem aiq {ρ:Env}:∀ {vs:List V} {L:List aad} {h:Hp},abY L h→abY (fsS (fS K ρ) (vs.map .v) (aag ρ vs)++L) h
 | [],_,_,s =>s
 | v::vs,L,h,s =>apV (p:=aau ρ v=aau ρ v) rfl h (aiq (vs:=vs) s)
theorem azD {o:Oper} {vs:List V} {n':Nat} {H':KT.H K} {v:V} (h:aGQ K R n Z H vs=some (n',H',v)) (hn:nx n' H' v)
  (ho:∀ F ρ a w,Sta nt B W (dR ρ R) (dS K ρ Z H F) a w→∃ u T,(execOp a.eval o).run P w=.ok (.value (.pointer (some ⟨w.heap.size,0,none⟩))) (w.alloc (.cells u T))∧u.toList=aag ρ vs):aeo K P nt B W o R n Z H nx:=fun F ρ a w s =>by
 unfold aGQ at h
 split at h
 ·rename_i hB
  cases h
  simp only [abW,Bool.and_eq_true] at hB
  obtain ⟨⟨⟨b1,b0⟩,b2⟩,b3⟩:=hB
  have b1':=Nat.le_of_ble_eq_true b1
  have b0':=Nat.le_of_ble_eq_true b0
  have b2':=Nat.le_of_ble_eq_true b2
  have b3':=Nat.le_of_ble_eq_true b3
  obtain ⟨u,T,hr,hu⟩:=ho F ρ a w s
  rw [hr]
  have ha:=ah7 ρ n (w.heap.size,0)
  refine ⟨⟨ρ.setP n (w.heap.size,0),n+1,_,.ptr n 0⟩,by simp [aau,Env.setP],⟨ha,Nat.le_succ _,(abU ha R b1').symm,hn⟩,aey s.below s.lo _,by simpa using Nat.le_succ_of_le s.lo,?_⟩
  have s1:=s.sat.fresh (cs:=u) (T:=T) s.lo
  refine s1.imp fun h hk =>?_
  obtain ⟨k1,k2,a',e',hp,hq⟩:=hk
  rw [hu,adW ha vs b3'] at hp
  have hq':abY (dS K (ρ.setP n (w.heap.size,0)) Z H F) k2:=by unfold dS; rw [← ab3 ha H b2',← acT b0' ha]; exact hq
  have s6:abY ((pts w.heap.size 0 (aag (ρ.setP n (w.heap.size,0)) vs)::fsS (fS K (ρ.setP n (w.heap.size,0))) (vs.map .v) (aag (ρ.setP n (w.heap.size,0)) vs))++dS K (ρ.setP n (w.heap.size,0)) Z H F) h:=⟨k1,k2,a',e',hp,aiq hq'⟩
  obtain ⟨j1,j2,a'',e'',g1,g2⟩:=aal.1 s6
  exact ⟨j1,j2,a'',e'',⟨_,by simpa [Env.setP] using g1⟩,g2⟩
 ·cases h
theorem axI {o:Oper} {T:TypeId} {vs:List V} {n':Nat} {H':KT.H K} {v:V} (ho:o.op=.alloc T) (hz:auI P T=some vs) (h:aGQ K R n Z H vs=some (n',H',v)) (hn:nx n' H' v):aeo K P nt B W o R n Z H nx:=by
 refine azD h hn fun F ρ a w s =>?_
 obtain ⟨d,op,ty,ps,af,g⟩:=o
 simp only at ho
 subst ho
 simp only [auI,Option.map_eq_some_iff] at hz
 obtain ⟨z,hz,rfl⟩:=hz
 refine ⟨z.cells,T,?_,?_⟩
 ·simp only [execOp,Instr.alloc]
  rw [aaa (a:=Value.pointer (some ⟨w.heap.size,0,none⟩)) (w':=w.alloc (.cells z.cells T)) (by rw [aaa (ak4 hz)]; exact aaa (aqP T z))]
  rfl
 ·rw [aaR,List.map_map]
  have:(aau ρ ∘ aBg)=id:=by funext x; exact aix ρ x
  rw [this,List.map_id]
theorem aBD {o:Oper} {T:TypeId} {x:Operand} {u:V} {n':Nat} {H':KT.H K} {v:V} (ho:o.op=.box T x) (hx:evO R x=some u) (hs:(aaD u).all (scV H)=true) (h:aGQ K R n Z H (aaD u)=some (n',H',v)) (hn:nx n' H' v):aeo K P nt B W o R n Z H nx:=by
 refine azD h hn fun F ρ a w s =>?_
 obtain ⟨d,op,ty,ps,af,g⟩:=o
 simp only at ho
 subst ho
 have ex:=(aaH (ρ:=ρ) hx).eval s.regs
 refine ⟨(aau ρ u).cells,T,?_,(amg hs s.sat).1⟩
 simp only [execOp,ex,Instr.box]
 rw [aaa (a:=Value.pointer (some ⟨w.heap.size,0,none⟩)) (w':=w.alloc (.cells (aau ρ u).cells T)) (by rw [aaa (aqP T _)]; rfl)]
 rfl
end
def am8 {T:Nat→Type} (c c':Nat) (xs:List (T c)):Option (List (T c')):=if h:c=c' then some (h▸xs) else none
def aAG {T:Nat→Type} (c c':Nat) (xs:List (List (T c))):Option (List (List (T c'))):=if h:c=c' then some (h▸xs) else none
theorem aAF {T:Nat→Type} {c c':Nat} {xs:List (List (T c))} {ys:List (List (T c'))} (h:aAG c c' xs=some ys):∃ e:c=c',ys=e▸xs:=by
 unfold aAG at h
 split at h
 ·rename_i e; cases h; exact ⟨e,rfl⟩
 ·cases h
theorem ago {T:Nat→Type} {c c':Nat} {xs:List (T c)} {ys:List (T c')} (h:am8 c c' xs=some ys):∃ e:c=c',ys=e▸xs:=by
 unfold am8 at h
 split at h
 ·rename_i e; cases h; exact ⟨e,rfl⟩
 ·cases h
def aGB {T:Nat→Type} (c c':Nat) (m:Int→Option (T c)):Option (Int→Option (T c')):=if h:c=c' then some (h▸m) else none
theorem aDf {T:Nat→Type} {c c':Nat} {m:Int→Option (T c)} {m':Int→Option (T c')} (h:aGB c c' m=some m'):∃ e:c=c',m'=e▸m:=by
 unfold aGB at h
 split at h
 ·rename_i e; cases h; exact ⟨e,rfl⟩
 ·cases h
def ami {α β:Type} (h:α=β) (xs:List α):List β:=(congrArg List h)▸xs
theorem aeZ {α β:Type} (h:α=β) (xs:List α):ami h xs=xs.map (fun x =>h▸x):=by subst h; simp [ami]
def oB:V→Bool
 | .ifc _ _ =>true
 | .ptr _ _ =>true
 | .sl _ =>true
 | .c u =>adw u
 | _ =>false
theorem aJV {ρ:Env} {v:V} (h:oB v=true):adw (aau ρ v)=true:=by
 cases v<;>first | rfl | (cases h; done) | exact h
section
variable (K:KT)
def aJz (own:KT.H K→(c:Nat)→List (Fd K.T K.M)→Option (K.T c×KT.H K)) (H:KT.H K) (e:Fl K.T K.M) (v:V):Option (Fl K.T K.M×KT.H K) :=
 match e with
 | .i k _ =>match aj3 v with
  | some (k',x,_) =>match aro k' k with
   | true =>some (.i k x,H)
   | false =>none
  | none =>none
 | .b _ =>match asz v with
  | some x =>some (.b x,H)
  | none =>none
 | .c _ =>none
 | .ro c _ =>match v with
  | .sl id =>match get H id with
   | some (.ro c' xs) =>match am8 c' c xs with
    | some ys =>some (.ro c ys,H)
    | none =>none
   | some (.row c' xs) =>match am8 c' c xs with
    | some ys =>match K.pl c' && Nat.blt 0 (K.sz c') with
     | true =>some (.ro c ys,(id,.ro c' xs)::del H id)
     | false =>none
    | none =>none
   | _ =>none
  | .c (.slice none 0 0) =>some (.ro c [],H)
  | _ =>none
 | .rr c _ =>match v with
  | .sl id =>match get H id with
   | some (.rr c' xs) =>match aAG c' c xs with
    | some ys =>some (.rr c ys,H)
    | none =>none
   | some (.row c' xs) =>match K.ls c c' with
    | some h =>some (.rr c (ami h.down xs),(id,.rr c (ami h.down xs))::del H id)
    | none =>none
   | _ =>none
  | .c (.slice none 0 0) =>some (.rr c [],H)
  | _ =>none
 | .row c _ =>match v with
  | .sl id =>match get H id with
   | some (.row c' xs) =>match am8 c' c xs with
    | some ys =>some (.row c ys,del H id)
    | none =>none
   | some (.hole c' xs i o u) =>match am8 c' c xs with
    | some ys =>match (K.vw c (atL (K.df c) ys i))[o]? with
     | some (.own c2 _) =>match u with
      | .ptr id2 p =>match p with
       | 0 =>match get (del H id) id2 with
        | some (.cells fs) =>match own (del (del H id) id2) c2 fs with
         | some (y,H') =>match K.bk c ((K.vw c (atL (K.df c) ys i)).set o (.own c2 y)) with
          | some x' =>some (.row c (ys.set i.toNat x'),H')
          | none =>none
         | none =>none
        | _ =>none
       | _ =>none
      | _ =>none
     | some (.mach _) =>match u with
      | .mc id2 =>match get (del H id) id2 with
       | some (.mach m) =>match K.bk c ((K.vw c (atL (K.df c) ys i)).set o (.mach m)) with
        | some x' =>some (.row c (ys.set i.toNat x'),del (del H id) id2)
        | none =>none
       | _ =>none
      | _ =>none
     | _ =>none
    | none =>none
   | _ =>none
  | .c (.slice none 0 0) =>some (.row c [],H)
  | _ =>none
 | .own c _ =>match v with
  | .ptr id o =>match o with
   | 0 =>match get H id with
    | some (.cells fs) =>match own (del H id) c fs with
     | some (x,H') =>some (.own c x,H')
     | none =>none
    | _ =>none
   | _ =>none
  | _ =>none
 | .o =>match oB v with
  | true =>some (.o,H)
  | false =>none
 | .mp c ag _ =>match v with
  | .mc id =>match get H id with
   | some (.mp c' ag' m) =>match ag' == ag with
    | true =>match aGB c' c m with
     | some m' =>some (.mp c ag m',del H id)
     | none =>none
    | false =>none
   | _ =>none
  | _ =>none
 | .mach _ =>match v with
  | .mc id =>match get H id with
   | some (.mach m) =>some (.mach m,del H id)
   | _ =>none
  | .c .nilIface =>some (.mach K.nilM,H)
  | .ifc t v =>match v with
   | .ptr id o =>match o with
    | 0 =>match K.kd t with
     | some c =>match get H id with
      | some (.cells fs) =>match own (del H id) c fs with
       | some (x,H') =>match K.mkM c x with
        | some m =>some (.mach m,H')
        | none =>none
       | none =>none
      | _ =>none
     | none =>none
    | _ =>none
   | _ =>none
  | _ =>none
def auH (a:KT.H K→Fl K.T K.M→V→Option (Fl K.T K.M×KT.H K)):KT.H K→List (Fl K.T K.M)→List (Fd K.T K.M)→Option (List (Fl K.T K.M)×KT.H K)
 | H,[],[] =>some ([],H)
 | H,e::es,.f x::fs =>match auH a H es fs with
  | some (l,H') =>some (x::l,H')
  | none =>none
 | H,e::es,.v v::fs =>match a H e v with
  | some (x,H') =>match auH a H' es fs with
   | some (l,H'') =>some (x::l,H'')
   | none =>none
  | none =>none
 | _,_,_ =>none
def aJB:Nat→KT.H K→(c:Nat)→List (Fd K.T K.M)→Option (K.T c×KT.H K)
 | 0,_,_,_ =>none
 | f+1,H,c,fs =>match auH K (aJz K (aJB f)) H (K.vw c (K.df c)) fs with
  | some (l,H') =>match K.bk c l with
   | some x =>some (x,H')
   | none =>none
  | none =>none
def depth:Nat:=9
abbrev asm:KT.H K→Fl K.T K.M→V→Option (Fl K.T K.M×KT.H K):=aJz K (aJB K depth)
end
section
variable {K:KT} {ρ:Env}
theorem apc:∀ {l:List (Fl K.T K.M)} {vs:List Value} {L:List aad} {h:Hp},ajf l=true→abY (fsS (pcS K) l vs++L) h→vs=l.map flV∧abY L h
 | [],[],_,_,_,s =>⟨rfl,s⟩
 | f::l,v::vs,L,h,hp,s =>by
  obtain ⟨k1,k2,a,e,hA,hL⟩:=s
  have hd:=Ent.drop h (show abY (pcS K f v::(fsS (pcS K) l vs++L)) h from ⟨k1,k2,a,e,hA,hL⟩)
  rw [aaI] at hA
  cases f<;>simp only [ajf,Bool.false_eq_true] at hp
  ·obtain ⟨h1,h2⟩:=apc hp hd
   exact ⟨by rw [List.map_cons,← h1]; congr 1,h2⟩
  ·obtain ⟨h1,h2⟩:=apc hp hd
   exact ⟨by rw [List.map_cons,← h1]; congr 1,h2⟩
 | [],_::_,_,_,_,⟨_,_,_,_,hf,_⟩ =>hf.elim
 | _::_,[],_,_,_,⟨_,_,_,_,hf,_⟩ =>hf.elim
theorem aqI {c:Nat} (hc:K.pl c=true):∀ {xs:List (K.T c)} {vss:List (List Value)} {L:List aad} {h:Hp},abY (act K (pcS K) c xs vss++L) h→vss=xs.map (ae4 K c)∧abY L h
 | [],[],_,_,s =>⟨rfl,s⟩
 | x::xs,vs::vss,L,h,s =>by
  have s':abY (fsS (pcS K) (K.vw c x) vs++(act K (pcS K) c xs vss++L)) h:=by simpa [act] using s
  obtain ⟨h1,h2⟩:=apc (K.pl_ok c hc x) s'
  obtain ⟨h3,h4⟩:=aqI hc h2
  exact ⟨by rw [List.map_cons,← h3,h1]; rfl,h4⟩
 | [],_::_,_,_,⟨_,_,_,_,hf,_⟩ =>hf.elim
 | _::_,[],_,_,⟨_,_,_,_,hf,_⟩ =>hf.elim
theorem ai9 {B:Nat} {w:World} {H:KT.H K} {X:List aad} {id c:Nat} {xs:List (K.T c)} (s:Sat B w (dH K ρ H++X)) (h:get H id=some (.row c xs)∨get H id=some (.ro c xs)):aau ρ (.sl id)=.slice (ρ.s id).a xs.length (ρ.s id).c:=by
 rcases h with h | h
 ·rw [aau,ain (H:=H) (m:=xs.length) (by unfold azN; rw [h]) s]
 ·rw [aau,ain (H:=H) (m:=xs.length) (by unfold azN; rw [h]) s]
theorem ayR {B:Nat} {w:World} {c:Nat} {xs:List (K.T c)} {A:Option Addr} {cap:Nat} {L:List aad} (hc:K.pl c=true) (hz:0<K.sz c) (s:Sat B w (rwS K c xs A cap::L)):Sat B w (roS (ae4 K c) (K.sz c) A cap xs::L):=by
 obtain ⟨h,Hh,k1,k2,a,e,h1,hL⟩:=s
 rw [adl] at h1
 obtain ⟨vss,q1,q2,a',e',g1,g2⟩:=h1
 have g3:abY (act K (pcS K) c xs vss++[]) q2:=by simpa using g2
 obtain ⟨rfl,_⟩:=aqI hc g3
 have s2:Sat B w (ae5 A xs.length cap (K.sz c) (xs.flatMap (ae4 K c))::L):=by
  refine ⟨h,Hh,k1,k2,a,e,?_,hL⟩
  rw [← List.flatMap_def] at g1
  rw [e']
  obtain ⟨r1,r2,r3,r4⟩:=g1
  refine ⟨r1,r2,r3,r4.imp id ?_⟩
  rintro ⟨b,o,spare,hA,hs,hp⟩
  exact ⟨b,o,spare,hA,hs,fun i v hi =>by unfold ac7; rw [hp i v hi]⟩
 exact ati hz (fun x =>by unfold ae4; rw [List.length_map,K.sz_ok]) rfl B w s2
theorem atg {B:Nat} {w:World} {c c':Nat} {hc:PLift (K.T c'=List (K.T c))} (h:K.ls c c'=some hc):∀ {xs:List (K.T c')} {vss:List (List Value)} {L:List aad},Sat B w (act K (pcS K) c' xs vss++L) →
  ∃ ps:List (Option Addr×Nat),(vss.flatten.length=xs.length∧∀ (i:Nat) ys,(ami hc.down xs)[i]?=some ys→∃ a,ps[i]?=some a∧vss.flatten[i]?=some (.slice a.1 ys.length a.2)) ∧
   Sat B w (ae2 (fun u =>∀ (i:Nat) ys a,(ami hc.down xs)[i]?=some ys→ps[i]?=some a→Sl (ae4 K c) (K.sz c) u u.heap.size a.1 ys∧ys.length≤a.2)::L)
 | [],[],L,s =>⟨[],⟨rfl,fun i ys hi =>by rw [aeZ] at hi; cases hi⟩,s.imp fun k hk =>(apB.trans (Ent.cons (adT fun _ _ i ys a hi =>by rw [aeZ] at hi; cases hi) Ent.refl)) k hk⟩
 | x::xs,vs::vss,L,s =>by
  have s':Sat B w (fsS (pcS K) (K.vw c' x) vs++(act K (pcS K) c' xs vss++L)):=s.imp fun k hk =>by simpa [act] using hk
  have hro:∃ v A cap,vs=[v]∧v=.slice A (hc.down▸x:List (K.T c)).length cap∧Sat B w (roS (ae4 K c) (K.sz c) A cap (hc.down▸x)::(act K (pcS K) c' xs vss++L)):=by
   rcases K.ls_ok _ _ _ h x with hv | ⟨hv,hpl,hsz⟩
   ·rw [hv] at s'
    match vs,s' with
    | [],s' =>obtain ⟨_,_,_,_,_,_,hf,_⟩:=s'; exact hf.elim
    | _::_::_,s' =>obtain ⟨_,_,_,_,_,_,_,_,_,_,_,hf,_⟩:=s'; exact hf.elim
    | [v],s' =>
     obtain ⟨k,Hk,k1,k2,a,e,h1,h2⟩:=(show Sat B w (pcS K (.ro c (hc.down▸x)) v::(act K (pcS K) c' xs vss++L)) from s')
     rw [aaI] at h1
     obtain ⟨A,cap,hv',hro⟩:=h1
     exact ⟨v,A,cap,rfl,hv',k,Hk,k1,k2,a,e,hro,h2⟩
   ·rw [hv] at s'
    match vs,s' with
    | [],s' =>obtain ⟨_,_,_,_,_,_,hf,_⟩:=s'; exact hf.elim
    | _::_::_,s' =>obtain ⟨_,_,_,_,_,_,_,_,_,_,_,hf,_⟩:=s'; exact hf.elim
    | [v],s' =>
     obtain ⟨k,Hk,k1,k2,a,e,h1,h2⟩:=(show Sat B w (pcS K (.row c (hc.down▸x)) v::(act K (pcS K) c' xs vss++L)) from s')
     rw [aaI] at h1
     obtain ⟨A,cap,hv',hro⟩:=h1
     exact ⟨v,A,cap,rfl,hv',ayR hpl hsz ⟨k,Hk,k1,k2,a,e,hro,h2⟩⟩
  obtain ⟨v,A,cap,rfl,rfl,s0⟩:=hro
  have s1:Sat B w (act K (pcS K) c' xs vss++(roS (ae4 K c) (K.sz c) A cap (hc.down▸x)::L)):=s0.imp fun k hk =>abV (List.perm_middle (l₁:=act K (pcS K) c' xs vss)).symm hk
  obtain ⟨ps,⟨g1,g2⟩,s2⟩:=atg h s1
  refine ⟨(A,cap)::ps,⟨by simp [g1],fun i ys hi =>?_⟩,?_⟩
  ·rw [aeZ] at hi g2
   cases i with
   | zero =>simp at hi; subst hi; exact ⟨_,rfl,rfl⟩
   | succ i =>exact g2 i ys (by simpa using hi)
  ·refine s2.imp fun k hk =>aaL (adT fun u hu i ys a hi ha =>?_) (awX k hk)
   rw [aeZ] at hi hu
   cases i with
   | zero =>simp at hi ha; subst hi ha; exact hu.2
   | succ i =>exact hu.1 i ys a (by simpa using hi) (by simpa using ha)
 | [],_::_,_,⟨_,_,_,_,_,_,hf,_⟩ =>hf.elim
 | _::_,[],_,⟨_,_,_,_,_,_,hf,_⟩ =>hf.elim
theorem aHr {B:Nat} {w:World} {c c':Nat} {hc:PLift (K.T c'=List (K.T c))} (h:K.ls c c'=some hc) {xs:List (K.T c')} {A:Option Addr} {cap:Nat} {L:List aad} (s:Sat B w (rwS K c' xs A cap::L)) :
  ∃ ps:List (Option Addr×Nat),Sat B w (ae2 (fun u =>((ami hc.down xs).length≤9223372036854775807∧(ami hc.down xs).length≤cap) ∧
   ∀ (i:Nat) ys,(ami hc.down xs)[i]?=some ys→∃ a,ps[i]?=some a∧(Sl (ae4 K c) (K.sz c) u u.heap.size a.1 ys∧ys.length≤a.2)∧∃ b o,A=some ⟨b,o,none⟩∧b<u.heap.size∧u.cell? ⟨b,o+i,none⟩=some (.slice a.1 ys.length a.2))::L):=by
 obtain ⟨k,Hk,k1,k2,a,e,h1,hL⟩:=s
 rw [adl] at h1
 obtain ⟨vss,q1,q2,a',e',g1,g2⟩:=h1
 have hs0:abY ((ae5 A xs.length cap (K.sz c') vss.flatten::act K (pcS K) c' xs vss)++L) k:=aal.2 ⟨k1,k2,a,e,⟨q1,q2,a',e',g1,g2⟩,hL⟩
 have hs1:abY (act K (pcS K) c' xs vss++(ae5 A xs.length cap (K.sz c') vss.flatten::L)) k:=abV (List.perm_middle (l₁:=act K (pcS K) c' xs vss)).symm hs0
 obtain ⟨ps,⟨f1,f2⟩,s2⟩:=atg h ⟨k,Hk,hs1⟩
 have hsz:K.sz c'=1∨xs=[]:=by
  cases xs with
  | nil =>exact .inr rfl
  | cons x xs =>left; rw [← K.sz_ok c' x]; rcases K.ls_ok _ _ _ h x with e | ⟨e,_⟩<;>rw [e]<;>rfl
 have s3:Sat B w (ae5 A xs.length cap (K.sz c') vss.flatten::ae2 (fun u =>∀ (i:Nat) ys a,(ami hc.down xs)[i]?=some ys→ps[i]?=some a→Sl (ae4 K c) (K.sz c) u u.heap.size a.1 ys∧ys.length≤a.2)::L):=s2.imp fun _ =>aoW
 refine ⟨ps,?_⟩
 have hlen:(ami hc.down xs).length=xs.length:=by rw [aeZ,List.length_map]
 rcases hsz with hsz | rfl
 ·rw [hsz] at s3
  have s4:Sat B w (ae5 A xs.length cap 1 (vss.flatten.flatMap fun v =>[v])::ae2 (fun u =>∀ (i:Nat) ys a,(ami hc.down xs)[i]?=some ys→ps[i]?=some a→Sl (ae4 K c) (K.sz c) u u.heap.size a.1 ys∧ys.length≤a.2)::L):=by
   have:(vss.flatten.flatMap fun v =>[v])=vss.flatten:=by simp
   rw [this]; exact s3
  have s5:=ati (enc:=fun v:Value =>[v]) Nat.one_pos (fun _ =>rfl) f1 B w s4
  refine s5.imp fun k hk =>aaL (adT fun u hu =>?_) (awX k hk)
  obtain ⟨⟨u1,u2⟩,u3⟩:=hu
  refine ⟨⟨by rw [hlen,← f1]; exact u1.1,by rw [hlen,← f1]; exact u2⟩,fun i ys hi =>?_⟩
  obtain ⟨a,ha,hv⟩:=f2 i ys hi
  have hlt:=(List.getElem?_eq_some_iff.1 hv).1
  obtain ⟨b,o,hA,hb,hc'⟩:=u1.at_ hlt
  refine ⟨a,ha,u3 i ys a hi ha,b,o,hA,hb,?_⟩
  have:=hc' i hlt 0 (.slice a.1 ys.length a.2) (by rw [(List.getElem?_eq_some_iff.1 hv).2]; rfl)
  simpa using this
 ·refine s3.imp fun k hk =>aaL (adT fun u hu =>⟨⟨by simp [aeZ],by simp [aeZ]⟩,fun i ys hi =>by rw [aeZ] at hi; cases hi⟩) (Ent.drop k hk)
def aGM (K:KT) (a:KT.H K→Fl K.T K.M→V→Option (Fl K.T K.M×KT.H K)):Prop :=
 ∀ H e v fl H',a H e v=some (fl,H')→∀ ρ X B w,Sat B w (dH K ρ H++X)→Sat B w (pcS K fl (aau ρ v)::(dH K ρ H'++X))
def aGL (K:KT) (own:KT.H K→(c:Nat)→List (Fd K.T K.M)→Option (K.T c×KT.H K)):Prop :=
 ∀ H c fs x H',own H c fs=some (x,H')→∀ ρ X vs B w,Sat B w (fsS (fS K ρ) fs vs++(dH K ρ H++X))→Sat B w (fsS (pcS K) (K.vw c x) vs++(dH K ρ H'++X))
theorem abj {B:Nat} {w:World} {p:aad} {L:List aad} (s:Sat B w L) (h:∀ k,p k):Sat B w (p::L):=s.imp fun k hk =>⟨fun _ _ =>none,k,fun _ _ =>.inl rfl,by funext x y; rfl,h _,hk⟩
theorem abi {B:Nat} {w:World} {A A':aad} {L:List aad} (f:∀ h,A h→A' h) (s:Sat B w (A::L)):Sat B w (A'::L):=s.imp fun _ =>aaL f
theorem avi {own:KT.H K→(c:Nat)→List (Fd K.T K.M)→Option (K.T c×KT.H K)} (ho:aGL K own) {H H':KT.H K} {id c:Nat} {fs:List (Fd K.T K.M)} {x:K.T c} (hg:get H id=some (.cells fs)) (h:own (del H id) c fs=some (x,H')) {X:List aad} {B:Nat} {w:World} (s:Sat B w (dH K ρ H++X)) :
  Sat B w (obS K c x (ρ.p id)::(dH K ρ H'++X)):=by
 obtain ⟨vs,s2⟩:=ag3 (s.imp (aaO (ρ:=ρ) hg))
 have s3:=ho _ _ _ _ _ h ρ (pts (ρ.p id).1 (ρ.p id).2 vs::X) vs B w (s2.perm (by
  show ((pts (ρ.p id).1 (ρ.p id).2 vs::fsS (fS K ρ) fs vs)++(dH K ρ (del H id)++X)).Perm (fsS (fS K ρ) fs vs++(dH K ρ (del H id)++(pts (ρ.p id).1 (ρ.p id).2 vs::X)))
  rw [← List.append_assoc,← List.append_assoc]
  exact (List.perm_middle (l₁:=fsS (fS K ρ) fs vs++dH K ρ (del H id))).symm))
 have s4:Sat B w ((pts (ρ.p id).1 (ρ.p id).2 vs::fsS (pcS K) (K.vw c x) vs)++(dH K ρ H'++X)):=s3.perm (by
  rw [← List.append_assoc,List.cons_append,← List.append_assoc]
  exact List.perm_middle)
 refine s4.imp fun k hk =>?_
 obtain ⟨k1,k2,a,e,g1,g2⟩:=aal.1 hk
 exact ⟨k1,k2,a,e,amU.2 ⟨vs,g1⟩,g2⟩
theorem aAT {own:KT.H K→(c:Nat)→List (Fd K.T K.M)→Option (K.T c×KT.H K)} (ho:aGL K own):aGM K (aJz K own):=by
 intro H e v fl H' h ρ X B w s
 unfold aJz at h
 split at h
 ·split at h
  ·rename_i hi
   split at h
   ·rename_i hk
    cases h
    obtain rfl:=ag4 hk
    exact abj s fun k =>aaI.2 (show aau ρ v=_ from afq hi)
   ·cases h
  ·cases h
 ·split at h
  ·rename_i hb; cases h; exact abj s fun k =>aaI.2 (show aau ρ v=_ from ajJ hb)
  ·cases h
 ·cases h
 ·rename_i c xs0
  split at h
  ·rename_i id
   split at h
   ·rename_i c' xs hg
    split at h
    ·rename_i ys hy
     cases h
     obtain ⟨rfl,rfl⟩:=ago hy
     have hv:=ai9 s (.inr hg)
     obtain ⟨h0,H0,t0⟩:=s
     have key:Sat B w (roS (ae4 K c') (K.sz c') (ρ.s id).a (ρ.s id).c ys::(dH K ρ H++X)):=by
      have:∀ k,abY (dH K ρ H++X) k→abY (roS (ae4 K c') (K.sz c') (ρ.s id).a (ρ.s id).c ys::(dH K ρ H++X)) k:=by
       intro k hk
       obtain ⟨j1,j2,a1,e1,⟨_,m2⟩,mL⟩:=aaO (ρ:=ρ) hg k hk
       obtain ⟨p,hp,hΦ⟩:=m2
       refine ⟨p,k,fun b o =>?_,?_,⟨p,fun b o x hx =>⟨(hp b o x hx).1,hx⟩,hΦ⟩,hk⟩
       ·cases hpb:p b o with
        | none =>exact .inl rfl
        | some x =>
         obtain ⟨⟨v,rfl⟩,h2⟩:=hp b o x hpb
         exact .inr (.inr ⟨v,rfl,by rw [e1]; unfold ac7; rw [h2]⟩)
       ·funext b o
        unfold ac7
        cases hpb:p b o with
        | none =>rfl
        | some x =>
         obtain ⟨⟨v,rfl⟩,h2⟩:=hp b o x hpb
         rw [e1]; unfold ac7; rw [h2]
      exact ⟨h0,H0,this _ t0⟩
     exact abi (fun k hk =>aaI.2 (show pcW K (obS K) (rwS K) (.ro c' ys) (aau ρ (.sl id)) k from ⟨_,_,hv,hk⟩)) key
    ·cases h
   ·rename_i c' xs hg
    split at h
    ·rename_i ys hy
     split at h
     ·rename_i hpl
      cases h
      obtain ⟨rfl,rfl⟩:=ago hy
      have hv:=ai9 s (.inl hg)
      obtain ⟨hh,Hh,k1,k2,a,e,⟨h1,h2⟩,hL⟩:=s.imp (aaO (ρ:=ρ) hg)
      simp only [Bool.and_eq_true] at hpl
      have s2:Sat B w (rwS K c' ys (ρ.s id).a (ρ.s id).c::(dH K ρ (del H id)++X)):=⟨hh,Hh,k1,k2,a,e,h2,hL⟩
      refine ((ayR hpl.1 (Nat.le_of_ble_eq_true hpl.2) s2).imp ayT).imp fun k hk =>?_
      exact aaL (fun k hk =>aaI.2 (show pcW K (obS K) (rwS K) (.ro c' ys) (aau ρ (.sl id)) k from ⟨_,_,hv,hk⟩)) (abu (fun k hk =>aaL (fun k hk =>⟨h1,hk⟩) hk) hk)
     ·cases h
    ·cases h
   ·cases h
  ·cases h
   exact s.imp fun k hk =>by
    have:=aDI (enc:=ae4 K c) (sz:=K.sz c) (A:=none) (c:=0) k hk
    exact aaL (fun k hk =>aaI.2 (show pcW K (obS K) (rwS K) (.ro c []) (.slice none 0 0) k from ⟨none,0,rfl,hk⟩)) this
  ·cases h
 ·rename_i c xs0
  split at h
  ·rename_i id
   split at h
   ·rename_i c' xs hg
    split at h
    ·rename_i ys hy
     cases h
     obtain ⟨rfl,rfl⟩:=aAF hy
     have hv:aau ρ (.sl id)=.slice (ρ.s id).a ys.length (ρ.s id).c:=by
      rw [aau,ain (H:=H) (m:=ys.length) (by unfold azN; rw [hg]) s]
     obtain ⟨h0,H0,t0⟩:=s
     refine ⟨h0,H0,?_⟩
     obtain ⟨j1,j2,a1,e1,⟨m1,ps,m2⟩,mL⟩:=aaO (ρ:=ρ) hg h0 t0
     obtain ⟨p,hp,hΦ⟩:=m2
     have hpp:∀ b o x,p b o=some x→(∃ v,x=.look v)∧h0 b o=some x:=fun b o x hx =>⟨(hp b o x hx).1,by rw [e1]; unfold ac7; rw [(hp b o x hx).2]⟩
     refine ⟨p,h0,fun b o =>?_,?_,aaI.2 (show pcW K (obS K) (rwS K) (.rr c' ys) (aau ρ (.sl id)) p from ⟨_,_,hv,ps,p,fun b o x hx =>⟨(hpp b o x hx).1,hx⟩,hΦ⟩),t0⟩
     ·cases hpb:p b o with
      | none =>exact .inl rfl
      | some x =>
       obtain ⟨⟨v,rfl⟩,h2⟩:=hpp b o x hpb
       exact .inr (.inr ⟨v,rfl,h2⟩)
     ·funext b o
      unfold ac7
      cases hpb:p b o with
      | none =>rfl
      | some x =>exact (hpp b o x hpb).2
    ·cases h
   ·rename_i c' xs hg
    split at h
    ·rename_i hc hls
     cases h
     have hv:=ai9 s (.inl hg)
     obtain ⟨hh,Hh,k1,k2,a,e,⟨h1,h2⟩,hL⟩:=s.imp (aaO (ρ:=ρ) hg)
     have s2:Sat B w (rwS K c' xs (ρ.s id).a (ρ.s id).c::(dH K ρ (del H id)++X)):=⟨hh,Hh,k1,k2,a,e,h2,hL⟩
     obtain ⟨ps,s3⟩:=aHr hls s2
     have hlen:(ami hc.down xs).length=xs.length:=by rw [aeZ,List.length_map]
     refine (s3.imp alL).imp fun k hk =>?_
     exact aaL (fun k hk =>aaI.2 (show pcW K (obS K) (rwS K) (.rr c (ami hc.down xs)) (aau ρ (.sl id)) k from ⟨_,_,by rw [hv,hlen],ps,hk⟩)) (abu (fun k hk =>aaL (fun k hk =>⟨by rw [h1,hlen],ps,hk⟩) hk) hk)
    ·cases h
   ·cases h
  ·cases h
   exact s.imp fun k hk =>by
    refine aaL (fun k hk =>aaI.2 (show pcW K (obS K) (rwS K) (.rr c []) (.slice none 0 0) k from ⟨none,0,rfl,[],?_⟩)) (apB k hk)
    exact adT (fun u _ =>⟨⟨by simp,by simp⟩,fun i ys hi =>by cases hi⟩) k hk
  ·cases h
 ·rename_i c xs0
  split at h
  ·rename_i id
   split at h
   ·rename_i c' xs hg
    split at h
    ·rename_i ys hy
     cases h
     obtain ⟨rfl,rfl⟩:=ago hy
     have hv:=ai9 s (.inl hg)
     obtain ⟨hh,Hh,k1,k2,a,e,⟨h1,h2⟩,hL⟩:=s.imp (aaO (ρ:=ρ) hg)
     exact ⟨hh,Hh,k1,k2,a,e,aaI.2 (show pcW K (obS K) (rwS K) (.row c' ys) (aau ρ (.sl id)) k1 from ⟨_,_,hv,h2⟩),hL⟩
    ·cases h
   ·rename_i c' xs i o u hg
    split at h
    ·rename_i ys hy
     obtain ⟨rfl,rfl⟩:=ago hy
     have fin:∀ {f':Fl K.T K.M} {x':K.T c'} {L:List aad},K.bk c' ((K.vw c' (atL (K.df c') ys i)).set o f')=some x'→Sat B w (acg K ρ id (.hole c' ys i o u)::pcS K f' (aau ρ u)::L)→Sat B w (pcS K (.row c' (ys.set i.toNat x')) (aau ρ (.sl id))::L):=by
      intro f' x' L hb s'
      refine abi (fun k hk =>?_) (axX (K.bk_ok _ _ _ hb) s')
      exact aaI.2 (show pcW K (obS K) (rwS K) (.row c' (ys.set i.toNat x')) (aau ρ (.sl id)) k from ⟨(ρ.s id).a,(ρ.s id).c,by rw [aau,hk.1],hk.2⟩)
     have s1:Sat B w (dH K ρ (del H id)++(acg K ρ id (.hole c' ys i o u)::X)):=(s.imp (aaO (ρ:=ρ) hg)).perm (List.perm_middle (l₁:=dH K ρ (del H id))).symm
     split at h
     ·rename_i c2 y0 _
      split at h
      ·rename_i id2 p
       split at h
       ·split at h
        ·rename_i fs hg2
         split at h
         ·rename_i y H2 hown
          split at h
          ·rename_i x' hb
           cases h
           have s2:=avi ho hg2 hown s1
           have s3:Sat B w (pcS K (.own c2 y) (aau ρ (.ptr id2 0))::(dH K ρ H'++(acg K ρ id (.hole c' ys i o (.ptr id2 0))::X))):=abi (fun k hk =>aaI.2 (show pcW K (obS K) (rwS K) (.own c2 y) (aau ρ (.ptr id2 0)) k from ⟨ρ.p id2,rfl,hk⟩)) s2
           refine fin hb (s3.perm ?_)
           exact (List.Perm.cons _ (List.perm_middle (l₁:=dH K ρ H'))).trans (List.Perm.swap ..)
          ·cases h
         ·cases h
        ·cases h
       ·cases h
      ·cases h
     ·split at h
      ·rename_i id2
       split at h
       ·rename_i m hg2
        split at h
        ·rename_i x' hb
         cases h
         have s2:=s1.imp (aaO (ρ:=ρ) hg2)
         refine fin (f':=.mach m) hb (s2.perm ?_)
         exact (List.Perm.cons _ (List.perm_middle (l₁:=dH K ρ (del (del H id) id2)))).trans (List.Perm.swap ..)
        ·cases h
       ·cases h
      ·cases h
     ·cases h
    ·cases h
   ·cases h
  ·cases h
   have hr:∀ k,rwS K c [] none 0 k:=fun k =>adl.2 ⟨[],fun _ _ =>none,k,fun _ _ =>.inl rfl,by funext x y; rfl,awn _ _,trivial⟩
   exact abj s fun k =>aaI.2 (show pcW K (obS K) (rwS K) (.row c []) (.slice none 0 0) k from ⟨none,0,rfl,hr k⟩)
  ·cases h
 ·rename_i c x0
  split at h
  ·rename_i id o
   split at h
   ·split at h
    ·rename_i fs hg
     split at h
     ·rename_i x H2 hx
      cases h
      have s2:=avi ho hg hx s
      exact abi (fun k hk =>aaI.2 (show pcW K (obS K) (rwS K) (.own c x) (aau ρ (.ptr id 0)) k from ⟨ρ.p id,rfl,hk⟩)) s2
     ·cases h
    ·cases h
   ·cases h
  ·cases h
 ·split at h
  ·rename_i hb; cases h; exact abj s fun _ =>aaI.2 (show pcW K (obS K) (rwS K) .o (aau ρ v) _ from aJV hb)
  ·cases h
 ·rename_i c ag m0
  split at h
  ·rename_i id
   split at h
   ·rename_i c' ag' m hg
    split at h
    ·rename_i e0
     split at h
     ·rename_i m' hm
      cases h
      obtain ⟨e,h2⟩:=aDf hm
      have e1:ag'=ag:=eq_of_beq e0
      subst e; subst h2; subst e1
      exact s.imp (aaO (ρ:=ρ) hg)
     ·cases h
    ·cases h
   ·cases h
  ·cases h
 ·split at h
  ·rename_i id
   split at h
   ·rename_i m hg
    cases h
    exact s.imp (aaO (ρ:=ρ) hg)
   ·cases h
  ·cases h
   exact abj s fun k =>aaI.2 (by simp only [pcW,K.nilM_ok]; rfl)
  ·rename_i t v
   split at h
   ·rename_i id o
    split at h
    ·split at h
     ·rename_i c hkd
      split at h
      ·rename_i fs hg
       split at h
       ·rename_i x H2 hx
        split at h
        ·rename_i m hm
         cases h
         have s2:=avi ho hg hx s
         refine abi (fun k hk =>aaI.2 ?_) s2
         simp only [pcW,K.mkM_ok _ _ _ hm]
         exact ⟨ρ.p id,by rw [K.kd_ok _ _ hkd]; rfl,hk⟩
        ·cases h
       ·cases h
      ·cases h
     ·cases h
    ·cases h
   ·cases h
  ·cases h
theorem agE {A:List aad}:∀ {L:List aad} {h:Hp},abY (L++A) h→abY A h
 | [],_,s =>s
 | _::_,h,s =>agE (Ent.drop h s)
theorem aki {α:Type _} (A B X:List α) (p:α):(A++(B++(p::X))).Perm (p::(A++(B++X))):=by
 rw [← List.append_assoc,← List.append_assoc]; exact List.perm_middle
theorem ac6 {α:Type _} (A B X:List α):(A++(B++X)).Perm (B++(A++X)):=by
 rw [← List.append_assoc,← List.append_assoc]; exact List.perm_append_comm.append_right _
theorem aaQ {B:Nat} {w:World} {L:List aad} {p:Prop} (s:Sat B w ((fun _ =>False)::L)):p:=by
 obtain ⟨_,_,_,_,_,_,hf,_⟩:=s; exact hf.elim
theorem aiG {a:KT.H K→Fl K.T K.M→V→Option (Fl K.T K.M×KT.H K)} (ha:aGM K a):∀ {H:KT.H K} {es:List (Fl K.T K.M)} {fs:List (Fd K.T K.M)} {l:List (Fl K.T K.M)} {H':KT.H K},auH K a H es fs=some (l,H') →
  ∀ {ρ:Env} {X:List aad} {vs:List Value} {B:Nat} {w:World},Sat B w (fsS (fS K ρ) fs vs++(dH K ρ H++X))→Sat B w (fsS (pcS K) l vs++(dH K ρ H'++X))
 | H,[],[],l,H',h,ρ,X,vs,B,w,s =>by
  cases h
  cases vs with
  | nil =>exact s
  | cons v vs =>exact aaQ s
 | H,e::es,.f x::fs,l,H',h,ρ,X,vs,B,w,s =>by
  unfold auH at h
  split at h
  ·rename_i l' H2 h2
   cases h
   cases vs with
   | nil =>exact aaQ s
   | cons v vs =>
    have s1:Sat B w (fsS (fS K ρ) fs vs++(dH K ρ H++(pcS K x v::X))):=s.perm (aki (fsS (fS K ρ) fs vs) (dH K ρ H) X (pcS K x v)).symm
    have s2:=aiG ha h2 s1
    exact s2.perm (aki (fsS (pcS K) l' vs) (dH K ρ H') X (pcS K x v))
  ·cases h
 | H,e::es,.v u::fs,l,H',h,ρ,X,vs,B,w,s =>by
  unfold auH at h
  split at h
  ·rename_i x H1 h1
   split at h
   ·rename_i l' H2 h2
    cases h
    cases vs with
    | nil =>exact aaQ s
    | cons v vs =>
     have hv:v=aau ρ u:=Sat.pure (show Sat B w (anV (v=aau ρ u)::(fsS (fS K ρ) fs vs++(dH K ρ H++X))) from s)
     have s0:Sat B w (fsS (fS K ρ) fs vs++(dH K ρ H++X)):=s.imp Ent.drop
     have s1:=ha _ _ _ _ _ h1 ρ (fsS (fS K ρ) fs vs++X) B w (s0.perm (ac6 (fsS (fS K ρ) fs vs) (dH K ρ H) X))
     have s2:Sat B w (fsS (fS K ρ) fs vs++(dH K ρ H1++(pcS K x v::X))):=s1.perm (by
      rw [← hv]
      exact (List.Perm.cons _ (ac6 (dH K ρ H1) (fsS (fS K ρ) fs vs) X)).trans (aki (fsS (fS K ρ) fs vs) (dH K ρ H1) X (pcS K x v)).symm)
     have s3:=aiG ha h2 s2
     exact s3.perm (aki (fsS (pcS K) l' vs) (dH K ρ H') X (pcS K x v))
   ·cases h
  ·cases h
 | _,[],_::_,_,_,h,_,_,_,_,_,_ =>by cases h
 | _,_::_,[],_,_,h,_,_,_,_,_,_ =>by cases h
theorem aAV:∀ f,aGL K (aJB K f)
 | 0 =>fun _ _ _ _ _ h =>by cases h
 | f+1 =>fun H c fs x H' h ρ X vs B w s =>by
  unfold aJB at h
  split at h
  ·rename_i l H2 hl
   split at h
   ·rename_i y hy
    cases h
    have:=aiG (aAT (aAV f)) hl s
    rw [K.bk_ok _ _ _ hy]
    exact this
   ·cases h
  ·cases h
theorem aqd:aGM K (asm K):=aAT (aAV _)
end
theorem adU {sz:Nat}:∀ {vss:List (List Value)},(∀ vs∈vss,vs.length=sz)→vss.flatten.length=vss.length*sz
 | [],_ =>by simp
 | vs::vss,h =>by
  rw [List.flatten_cons,List.length_append,adU (fun v hv =>h v (List.mem_cons_of_mem _ hv)),h vs (List.mem_cons_self ..),List.length_cons,Nat.add_mul]; omega
theorem ait {sz:Nat}:∀ {vss:List (List Value)} {i o:Nat} {vs us:List Value},(∀ vs∈vss,vs.length=sz)→vss[i]?=some vs→o+us.length≤sz →
  (vss.set i (vs.take o++us++vs.drop (o+us.length))).flatten=vss.flatten.take (i*sz+o)++us++vss.flatten.drop (i*sz+o+us.length)
 | [],i,o,vs,us,_,h,_ =>by cases h
 | ws::vss,0,o,vs,us,hl,h,ho =>by
  simp at h; subst h
  have h0:=hl ws (List.mem_cons_self ..)
  simp only [List.set_cons_zero,List.flatten_cons,Nat.zero_mul,Nat.zero_add]
  rw [List.take_append_of_le_length (by omega),List.drop_append_of_le_length (by omega)]
  simp only [List.append_assoc]
 | ws::vss,i+1,o,vs,us,hl,h,ho =>by
  have h0:=hl ws (List.mem_cons_self ..)
  have ih:=ait (vss:=vss) (i:=i) (o:=o) (vs:=vs) (us:=us) (fun v hv =>hl v (List.mem_cons_of_mem _ hv)) (by simpa using h) ho
  simp only [List.set_cons_succ,List.flatten_cons]
  rw [ih,show (i+1)*sz+o=ws.length+(i*sz+o) by rw [h0,Nat.add_mul]; omega]
  rw [List.take_length_add_append,Nat.add_assoc ws.length,List.drop_length_add_append]
  simp only [List.append_assoc]
theorem air {F:Type} {pc:F→Value→aad}:∀ {a b:List F} {x y:List Value},a.length=x.length→fsS pc (a++b) (x++y)=fsS pc a x++fsS pc b y
 | [],_,[],_,_ =>rfl
 | f::a,b,v::x,y,h =>by simp only [List.cons_append,fsS,air (a:=a) (x:=x) (by simpa using h)]
 | [],_,_::_,_,h =>by cases h
 | _::_,_,[],_,h =>by cases h
section
variable {P:Program} {B:Nat} {W:World}
theorem ayQ {T:TypeId} {v:Value} {b o m c sz i k:Nat} {vs us:List Value} {w:World} {L:List aad} (s:Sat B w (ae5 (some ⟨b,o,none⟩) m c sz vs::L)) (hb:Below B W w) (hl:B≤w.heap.size) (hT:P.cellsOf T=k) (hk:us.length=k) (hk0:0<k) (hv:v.cells.toList=us) (ha:us.all adw=true) (hi:i+k≤vs.length) :
  ∃ w',(storeVar T ⟨b,o+i,none⟩ v).run P w=.ok () w'∧Cls B W (ae5 (some ⟨b,o,none⟩) m c sz (vs.take i++us++vs.drop (i+k))::L) w':=by
 obtain ⟨h,Hh,k1,k2,ap,e,⟨h1,h2,h3,h4⟩,hM⟩:=s
 rcases h4 with ⟨h4,_⟩ | ⟨b',o',spare,hA,hsp,hp⟩
 ·cases h4
 ·cases hA
  have s':Sat B w (pts b o (vs++spare)::L):=⟨h,Hh,k1,k2,ap,e,hp,hM⟩
  obtain ⟨w',hr,c1,c2,c3⟩:=ant (P:=P) (T:=T) (v:=v) (W:=W) (o':=o+i) (i:=i) (k:=k) (us:=us) s' hb hl rfl hT hk hk0 hv ha (by rw [List.length_append]; omega)
  refine ⟨w',hr,c1,c2,c3.imp fun h =>aaL fun h hq =>?_⟩
  have e1:List.take i (vs++spare)++us++List.drop (i+k) (vs++spare)=(vs.take i++us++vs.drop (i+k))++spare:=by
   rw [List.take_append_of_le_length (by omega),List.drop_append_of_le_length (by omega)]
   simp only [List.append_assoc]
  rw [e1] at hq
  refine ⟨?_,h2,h3,.inr ⟨b,o,spare,rfl,hsp,hq⟩⟩
  rw [← h1]; simp only [List.length_append,List.length_take,List.length_drop]; omega
end
section
variable (K:KT)
def aGb (P:Program) (H:KT.H K) (T:TypeId) (x u:V):Option (KT.H K) :=
 match x with
 | .ptr id o =>match get H id with
  | some (.elt j i sz) =>match get H j with
   | some (.row c xs) =>match Nat.beq sz (K.sz c) && Nat.beq (P.cellsOf T) (aaD u).length && Nat.blt 0 (aaD u).length && Nat.ble (o+(aaD u).length) sz && (aaD u).all (scV (del H j)) with
    | true =>match auH K (asm K) (del H j) (((K.vw c (atL (K.df c) xs i)).drop o).take (aaD u).length) ((aaD u).map .v) with
     | some (l,H1) =>match K.bk c ((K.vw c (atL (K.df c) xs i)).take o++l++(K.vw c (atL (K.df c) xs i)).drop (o+(aaD u).length)) with
      | some x' =>some ((j,.row c (xs.set i.toNat x'))::H1)
      | none =>none
     | none =>none
    | false =>none
   | _ =>none
  | _ =>none
 | _ =>none
end
section
variable {K:KT} {P:Program} {nt n B:Nat} {W:World} {R:aaZ} {Z H:KT.H K} {nx:Nat→KT.H K→V→Prop}
theorem aoB {a:KT.H K→Fl K.T K.M→V→Option (Fl K.T K.M×KT.H K)}:∀ {H:KT.H K} {es:List (Fl K.T K.M)} {fs:List (Fd K.T K.M)} {l:List (Fl K.T K.M)} {H':KT.H K},auH K a H es fs=some (l,H')→l.length=fs.length∧es.length=fs.length
 | H,[],[],l,H',h =>by cases h; exact ⟨rfl,rfl⟩
 | H,e::es,.f x::fs,l,H',h =>by
  unfold auH at h
  split at h
  ·rename_i h2; cases h; have:=aoB h2; simp [this]
  ·cases h
 | H,e::es,.v u::fs,l,H',h =>by
  unfold auH at h
  split at h
  ·split at h
   ·rename_i h2; cases h; have:=aoB h2; simp [this]
   ·cases h
  ·cases h
 | _,[],_::_,_,_,h =>by cases h
 | _,_::_,[],_,_,h =>by cases h
theorem auO {o:Oper} {T:TypeId} {x y:Operand} {u v:V} {H':KT.H K} (ho:o.op=.store T x y) (hx:evO R x=some u) (hy:evO R y=some v) (h:aGb K P H T u v=some H') (hn:nx n H' (.c undef)):aeo K P nt B W o R n Z H nx:=fun F ρ a w s =>by
 obtain ⟨d,op,ty,ps,af,g⟩:=o
 simp only at ho
 subst ho
 have ex:=(aaH (ρ:=ρ) hx).eval s.regs
 have ey:=(aaH (ρ:=ρ) hy).eval s.regs
 unfold aGb at h
 split at h
 ·rename_i id o'
  split at h
  ·rename_i j i sz hel
   split at h
   ·rename_i c xs hg
    split at h
    ·rename_i hB
     split at h
     ·rename_i l H1 hl
      split at h
      ·rename_i x' hbk
       cases h
       simp only [Bool.and_eq_true] at hB
       obtain ⟨⟨⟨⟨b0,b1⟩,b2⟩,b3⟩,b4⟩:=hB
       obtain rfl:=Nat.eq_of_beq_eq_true b0
       have b1':=Nat.eq_of_beq_eq_true b1
       have b2':0<(aaD v).length:=Nat.le_of_ble_eq_true b2
       have b3':=Nat.le_of_ble_eq_true b3
       obtain ⟨hi,b,o2,hA,hp⟩:=at7 s.sat hel
       obtain ⟨hlen,vss,h2,h3,s2⟩:=aku s.sat hg
       rw [hlen] at hi
       have hxi:=ae0 (d:=K.df c) hi
       have hlt:i.toNat<vss.length:=by omega
       have hvs:vss[i.toNat]?=some vss[i.toNat]:=List.getElem?_eq_getElem hlt
       have hvl:=h3 _ (List.getElem_mem hlt)
       rw [hA] at s2
       -- what is stored
       have s3:Sat B w (dH K ρ (del H j)++(ae5 (some ⟨b,o2,none⟩) xs.length (ρ.s j).c (K.sz c) vss.flatten::(act K (pcS K) c xs vss++tl K Z F ρ))):=s2.perm (by
        refine List.Perm.symm ?_
        refine (List.perm_middle (l₁:=dH K ρ (del H j))).trans (List.Perm.cons _ ?_)
        exact ac6 _ _ _)
       obtain ⟨hcl,hsc⟩:=amg b4 s3
       have hvlen:(aag ρ (aaD v)).length=(aaD v).length:=by rw [aaR]; simp
       have s4:=aiG aqd hl (ρ:=ρ) (X:=ae5 (some ⟨b,o2,none⟩) xs.length (ρ.s j).c (K.sz c) vss.flatten::(act K (pcS K) c xs vss++tl K Z F ρ)) (vs:=aag ρ (aaD v)) (s3.imp fun k hk =>aiq hk)
       have s5:Sat B w (ae5 (some ⟨b,o2,none⟩) xs.length (ρ.s j).c (K.sz c) vss.flatten::(fsS (pcS K) l (aag ρ (aaD v))++(dH K ρ H1++(act K (pcS K) c xs vss++tl K Z F ρ)))):=s4.perm (aki _ _ _ _)
       obtain ⟨w',hr,c1,c2,c3⟩:=ayQ (P:=P) (T:=T) (v:=aau ρ v) (W:=W) (i:=i.toNat*K.sz c+o') (k:=(aaD v).length) (us:=aag ρ (aaD v)) s5 s.below s.lo b1' hvlen b2' hcl hsc (by
        rw [adU h3]
        have:(i.toNat+1)*K.sz c≤vss.length*K.sz c:=Nat.mul_le_mul_right _ hlt
        rw [Nat.add_mul] at this
        omega)
       have:(execOp a.eval ⟨d,.store T x y,ty,ps,af,g⟩).run P w=.ok .skip w':=by
        simp only [execOp,ex,ey,aau,Instr.storeAt,Instr.sureAddr,hp]
        rw [aaa (a:=()) (w':=w') (by
         rw [aaa (a:=(⟨b,o2+i.toNat*K.sz c+o',none⟩:Addr)) (w':=w) rfl]
         rw [Nat.add_assoc]; exact hr)]
        rfl
       rw [this]
       refine ⟨⟨ρ,n,_,.c undef⟩,rfl,⟨aay.refl _ _,Nat.le_refl _,rfl,hn⟩,c1,c2,?_⟩
       rw [← hvlen] at c3
       rw [← ait h3 hvs (by omega)] at c3
       -- put together again
       obtain ⟨M,p1,p2⟩:=ahH (pc:=pcS K) hxi hvs
       refine c3.imp fun k hk =>?_
       obtain ⟨k1,k2,a',e',g1,g2⟩:=hk
       have g3:abY ((fsS (pcS K) l (aag ρ (aaD v))++(fsS (pcS K) (K.vw c (atL (K.df c) xs i)) vss[i.toNat]++M))++(dH K ρ H1++tl K Z F ρ)) k2:=by
        refine abV ?_ g2
        rw [List.append_assoc]
        refine List.Perm.append_left _ ?_
        refine (ac6 _ _ _).trans ?_
        exact p1.append_right _
       have hes:(K.vw c (atL (K.df c) xs i)).length=(vss[i.toNat]).length:=by rw [K.sz_ok,hvl]
       have hol:o'+(aaD v).length≤(K.vw c (atL (K.df c) xs i)).length:=by rw [K.sz_ok]; exact b3'
       have hll:=(aoB hl).1
       rw [List.length_map] at hll
       -- the old cells' places in three
       have e1:fsS (pcS K) (K.vw c (atL (K.df c) xs i)) vss[i.toNat]=fsS (pcS K) ((K.vw c (atL (K.df c) xs i)).take o') ((vss[i.toNat]).take o')++(fsS (pcS K) (((K.vw c (atL (K.df c) xs i)).drop o').take (aaD v).length) (((vss[i.toNat]).drop o').take (aaD v).length)++fsS (pcS K) ((K.vw c (atL (K.df c) xs i)).drop (o'+(aaD v).length)) ((vss[i.toNat]).drop (o'+(aaD v).length))):=by
        conv =>lhs; rw [← List.take_append_drop o' (K.vw c (atL (K.df c) xs i)),← List.take_append_drop o' (vss[i.toNat]),air (by simp [hes])]
        conv =>lhs; arg 2; rw [← List.take_append_drop (aaD v).length ((K.vw c (atL (K.df c) xs i)).drop o'),← List.take_append_drop (aaD v).length ((vss[i.toNat]).drop o'),air (by simp [hes]),List.drop_drop,List.drop_drop]
       rw [e1] at g3
       have g4:abY ((fsS (pcS K) ((K.vw c (atL (K.df c) xs i)).take o') ((vss[i.toNat]).take o')++(fsS (pcS K) l (aag ρ (aaD v))++(fsS (pcS K) ((K.vw c (atL (K.df c) xs i)).drop (o'+(aaD v).length)) ((vss[i.toNat]).drop (o'+(aaD v).length))++M)))++(dH K ρ H1++tl K Z F ρ)) k2:=by
        have g5:abY (fsS (pcS K) (((K.vw c (atL (K.df c) xs i)).drop o').take (aaD v).length) (((vss[i.toNat]).drop o').take (aaD v).length)++((fsS (pcS K) ((K.vw c (atL (K.df c) xs i)).take o') ((vss[i.toNat]).take o')++(fsS (pcS K) l (aag ρ (aaD v))++(fsS (pcS K) ((K.vw c (atL (K.df c) xs i)).drop (o'+(aaD v).length)) ((vss[i.toNat]).drop (o'+(aaD v).length))++M)))++(dH K ρ H1++tl K Z F ρ))) k2:=by
         refine abV ?_ g3
         simp only [List.append_assoc]
         refine (ac6 _ _ _).trans ?_
         refine (List.Perm.append_left _ (ac6 _ _ _)).trans ?_
         exact ac6 _ _ _
        exact agE g5
       have e2:fsS (pcS K) (K.vw c x') ((vss[i.toNat]).take o'++aag ρ (aaD v)++(vss[i.toNat]).drop (o'+(aag ρ (aaD v)).length))=fsS (pcS K) ((K.vw c (atL (K.df c) xs i)).take o') ((vss[i.toNat]).take o')++(fsS (pcS K) l (aag ρ (aaD v))++fsS (pcS K) ((K.vw c (atL (K.df c) xs i)).drop (o'+(aaD v).length)) ((vss[i.toNat]).drop (o'+(aaD v).length))):=by
        rw [K.bk_ok _ _ _ hbk,List.append_assoc,List.append_assoc,air (by simp [hes]),air (by rw [hvlen,hll]),hvlen]
       have g6:abY (act K (pcS K) c (xs.set i.toNat x') (vss.set i.toNat ((vss[i.toNat]).take o'++aag ρ (aaD v)++(vss[i.toNat]).drop (o'+(aag ρ (aaD v)).length)))++(dH K ρ H1++tl K Z F ρ)) k2:=by
        refine abV (((p2 x' _).append_right _).symm) ?_
        rw [e2]
        simpa only [List.append_assoc] using g4
       have g7:abY ((ae5 (some ⟨b,o2,none⟩) (xs.set i.toNat x').length (ρ.s j).c (K.sz c) (vss.set i.toNat ((vss[i.toNat]).take o'++aag ρ (aaD v)++(vss[i.toNat]).drop (o'+(aag ρ (aaD v)).length))).flatten::act K (pcS K) c (xs.set i.toNat x') (vss.set i.toNat ((vss[i.toNat]).take o'++aag ρ (aaD v)++(vss[i.toNat]).drop (o'+(aag ρ (aaD v)).length))))++(dH K ρ H1++tl K Z F ρ)) k:=⟨k1,k2,a',e',by rw [List.length_set]; exact g1,g6⟩
       obtain ⟨j1,j2,a'',e'',q1,q2⟩:=aal.1 g7
       exact ⟨j1,j2,a'',e'',⟨by rw [List.length_set]; exact hlen,adl.2 ⟨_,by rw [hA]; exact q1⟩⟩,q2⟩
      ·cases h
     ·cases h
    ·cases h
   ·cases h
  ·cases h
 ·cases h
end
theorem ale:∀ (us:List Value) (j off:Nat) (cs:Array Value),off+j+us.length≤cs.size →
  ((us.zipIdx j).foldl (fun cs (p:Value×Nat) =>cs.setIfInBounds (off+p.2) p.1) cs).toList=cs.toList.take (off+j)++us++cs.toList.drop (off+j+us.length)
 | [],j,off,cs,_ =>by simp
 | u::us,j,off,cs,h =>by
  simp only [List.length_cons] at h
  simp only [List.zipIdx_cons,List.foldl_cons,List.length_cons]
  rw [ale us (j+1) off _ (by simp; omega)]
  simp only [Array.toList_setIfInBounds]
  have hl:off+j<cs.toList.length:=by simpa using (by omega:off+j<cs.size)
  rw [show off+(j+1)=(off+j)+1 by omega]
  have e1:(cs.toList.set (off+j) u).take (off+j+1)=cs.toList.take (off+j)++[u]:=by
   rw [List.take_succ_eq_append_getElem (by simpa using hl),List.take_set_of_le (Nat.le_refl _)]
   simp
  have e2:(cs.toList.set (off+j) u).drop (off+j+1+us.length)=cs.toList.drop (off+j+(us.length+1)):=by
   rw [List.drop_set_of_lt (by omega)]; congr 1; omega
  rw [e1,e2]; simp
def ax0 {K:KT} (H:KT.H K) (pl:Nat→Option (Nat×Nat)) (cells:List V):List (Nat×V)→Option (List V)
 | [] =>some cells
 | (i,v)::rest =>match pl i with
  | some (off,size) =>match Nat.beq (aaD v).length size && Nat.ble (off+size) cells.length && (aaD v).all (scV H) with
   | true =>ax0 H pl (cells.take off++aaD v++cells.drop (off+size)) rest
   | false =>none
  | none =>none
def aGU (R:aaZ):List (Nat×Operand)→Option (List (Nat×V))
 | [] =>some []
 | (i,x)::l =>match evO R x with
  | some v =>match aGU R l with
   | some vs =>some ((i,v)::vs)
   | none =>none
  | none =>none
section
variable {K:KT} {ρ:Env} {B:Nat} {w:World}
theorem asg {R:aaZ}:∀ {l:List (Nat×Operand)} {vs:List (Nat×V)},aGU R l=some vs→EvalPs (dR ρ R) l (vs.map fun p =>(p.1,aau ρ p.2))
 | [],vs,h =>by cases h; exact .nil
 | (i,x)::l,vs,h =>by
  unfold aGU at h
  split at h
  ·rename_i hx
   split at h
   ·rename_i hl; cases h; exact .cons (aaH hx) (asg hl)
   ·cases h
  ·cases h
theorem aou {H:KT.H K} {X:List aad} (s:Sat B w (dH K ρ H++X)) {pl:Nat→Option (Nat×Nat)}:∀ {ps:List (Nat×V)} {cells out:List V},ax0 H pl cells ps=some out →
  Instr.fill pl (aag ρ cells).toArray (ps.map fun p =>(p.1,aau ρ p.2))=some (aag ρ out).toArray∧out.length=cells.length
 | [],cells,out,h =>by cases h; exact ⟨rfl,rfl⟩
 | (i,v)::ps,cells,out,h =>by
  unfold ax0 at h
  split at h
  ·rename_i off size hp
   split at h
   ·rename_i hB
    simp only [Bool.and_eq_true] at hB
    obtain ⟨⟨b1,b2⟩,b3⟩:=hB
    have b1':=Nat.eq_of_beq_eq_true b1
    have b2':=Nat.le_of_ble_eq_true b2
    obtain ⟨hc,_⟩:=amg b3 s
    obtain ⟨ih,hl⟩:=aou s h
    have hlen:(aag ρ cells).length=cells.length:=by rw [aaR]; simp
    have hcl:(aau ρ v).cells.size=size:=by
     have:=congrArg List.length hc
     rw [aaR] at this; simpa [b1'] using this
    refine ⟨?_,by rw [hl]; simp; omega⟩
    rw [List.map_cons,Instr.fill]
    simp only [hp,hcl]
    rw [if_neg (by simp [hlen]; omega)]
    rw [← ih]
    congr 1
    apply Array.ext'
    rw [← Array.foldl_toList,Array.toList_zipIdx,hc]
    have:=ale (aag ρ (aaD v)) 0 off (aag ρ cells).toArray (by rw [aaR (aaD v)]; simp [hlen,b1']; omega)
    rw [Nat.add_zero] at this
    rw [this]
    simp [aaR,b1']
   ·cases h
  ·cases h
end
def plS (P:Program):List Field→Option (List (Nat×Nat))
 | [] =>some []
 | f::l =>match P.info? f.type with
  | some i =>match plS P l with
   | some r =>some ((f.offset,i.size)::r)
   | none =>none
  | none =>none
theorem ay8 {P:Program} {w:World}:∀ {l:List Field} {r:List (Nat×Nat)},plS P l=some r→(l.mapM (m:=Sem) fun f =>do pure (f.offset,← sizeOf f.type)).run P w=.ok r w
 | [],r,h =>by cases h; rfl
 | f::l,r,h =>by
  unfold plS at h
  split at h
  ·rename_i i hi
   split at h
   ·rename_i r' hr
    cases h
    rw [List.mapM_cons]
    have h1:(sizeOf f.type).run P w=.ok i.size w:=by unfold sizeOf; rw [aaa (acq hi)]; rfl
    rw [aaa (a:=(f.offset,i.size)) (w':=w) (by rw [aaa h1]; rfl),aaa (ay8 hr)]
    rfl
   ·cases h
  ·cases h
section
variable (K:KT)
def aKi (P:Program) (R:aaZ) (H:KT.H K) (T:TypeId) (parts:List (Nat×Operand)):Option V :=
 match P.underlying T with
 | some (.struct fs) =>match auI P T with
  | some z =>match plS P fs.toList with
   | some pl =>match aGU R parts with
    | some ps =>(ax0 H (fun i =>pl[i]?) z ps).map .agg
    | none =>none
   | none =>none
  | none =>none
 | some (.array _ E) =>match auI P T with
  | some z =>match P.info? E with
   | some inf =>match aGU R parts with
    | some ps =>(ax0 H (fun i =>some (i*inf.size,inf.size)) z ps).map .agg
    | none =>none
   | none =>none
  | none =>none
 | _ =>none
def aJr (P:Program) (R:aaZ) (H:KT.H K) (T:TypeId) (m:Nat) (parts:List (Nat×Operand)):Option (Nat×List V) :=
 match P.underlying T with
 | some (.slice E) =>match P.info? E with
  | some inf =>match inf.zero with
   | some z =>match aGU R parts with
    | some ps =>match Nat.ble (m*inf.size) 16777216 && Nat.blt 0 (m*inf.size) with
     | true =>(ax0 H (fun i =>some (i*inf.size,inf.size)) (((Array.range (m*inf.size)).map (z.cells[· % z.cells.size]!)).toList.map aBg) ps).map fun l =>(inf.size,l)
     | false =>none
    | none =>none
   | none =>none
  | none =>none
 | _ =>none
end
section
variable {K:KT} {P:Program} {ρ:Env} {B:Nat} {w:World}
theorem apZ (l:List Value):aag ρ (l.map aBg)=l:=by
 rw [aaR,List.map_map]
 have:(aau ρ ∘ aBg)=id:=by funext x; exact aix ρ x
 rw [this,List.map_id]
theorem aGj {R:aaZ} {H:KT.H K} {X:List aad} {T:TypeId} {parts:Array (Nat×Operand)} {v:V} {nt:Nat} {a:Act} (s:Sat B w (dH K ρ H++X)) (r:Regs nt a (dR ρ R)) (h:aKi K P R H T parts.toList=some v) :
  ∀ w',(Instr.build T (parts.map fun (i,x) =>(i,a.eval x))).run P w'=.ok (aau ρ v) w':=by
 intro w'
 unfold aKi at h
 split at h
 ·rename_i fs hU
  split at h
  ·rename_i z hz
   split at h
   ·rename_i pl hpl
    split at h
    ·rename_i ps hps
     simp only [Option.map_eq_some_iff] at h
     obtain ⟨l,hl,rfl⟩:=h
     simp only [auI,Option.map_eq_some_iff] at hz
     obtain ⟨zv,hz,rfl⟩:=hz
     have hf:=(aou s hl).1
     rw [apZ] at hf
     have e:=(asg (ρ:=ρ) hps).eval r
     unfold Instr.build
     rw [aaa (ak4 hz),aaa (aco hU)]
     simp only
     have hfs:fs=fs.toList.toArray:=by simp
     rw [hfs]
     simp only [List.mapM_toArray]
     rw [aaa (a:=pl.toArray) (w':=w') (by rw [map_eq_pure_bind]; exact aaa (ay8 hpl))]
     simp only [Array.toList_map,e]
     have hf':Instr.fill (fun i =>pl.toArray[i]?) zv.cells (ps.map fun p =>(p.1,aau ρ p.2))=some (aag ρ l).toArray:=by simpa using hf
     rw [hf']; rfl
    ·cases h
   ·cases h
  ·cases h
 ·rename_i E hU
  split at h
  ·rename_i z hz
   split at h
   ·rename_i inf hi
    split at h
    ·rename_i ps hps
     simp only [Option.map_eq_some_iff] at h
     obtain ⟨l,hl,rfl⟩:=h
     simp only [auI,Option.map_eq_some_iff] at hz
     obtain ⟨zv,hz,rfl⟩:=hz
     have hf:=(aou s hl).1
     rw [apZ] at hf
     have e:=(asg (ρ:=ρ) hps).eval r
     unfold Instr.build
     rw [aaa (ak4 hz),aaa (aco hU)]
     simp only
     have h1:(sizeOf E).run P w'=.ok inf.size w':=by unfold sizeOf; rw [aaa (acq hi)]; rfl
     rw [aaa h1]
     simp only [Array.toList_map,e]
     have hf':Instr.fill (fun i =>some (i*inf.size,inf.size)) zv.cells (ps.map fun p =>(p.1,aau ρ p.2))=some (aag ρ l).toArray:=by simpa using hf
     rw [hf']; rfl
    ·cases h
   ·cases h
  ·cases h
 ·cases h
theorem aAa {R:aaZ} {H:KT.H K} {X:List aad} {T:TypeId} {m sz:Nat} {parts:Array (Nat×Operand)} {l:List V} {nt:Nat} {a:Act} (s:Sat B w (dH K ρ H++X)) (r:Regs nt a (dR ρ R)) (h:aJr K P R H T m parts.toList=some (sz,l)) :
  ∃ E,l.length=m*sz∧m≤maxLen∧(Instr.buildSlice T m (parts.map fun (i,x) =>(i,a.eval x))).run P w=.ok (.slice (some ⟨w.heap.size,0,none⟩) m m) (w.alloc (.cells (aag ρ l).toArray E)):=by
 unfold aJr at h
 split at h
 ·rename_i E hU
  split at h
  ·rename_i inf hi
   split at h
   ·rename_i z hz
    split at h
    ·rename_i ps hps
     split at h
     ·rename_i hB
      simp only [Option.map_eq_some_iff,Prod.mk.injEq] at h
      obtain ⟨l',hl,rfl,rfl⟩:=h
      simp only [Bool.and_eq_true] at hB
      have b1:=Nat.le_of_ble_eq_true hB.1
      have b2:0<m*inf.size:=Nat.le_of_ble_eq_true hB.2
      obtain ⟨hf,hlen⟩:=aou s hl
      rw [apZ] at hf
      have e:=(asg (ρ:=ρ) hps).eval r
      have hs0:0<inf.size:=Nat.pos_of_mul_pos_left b2
      refine ⟨E,by rw [hlen]; simp,?_,?_⟩
      ·have:m*1≤m*inf.size:=Nat.mul_le_mul_left _ hs0
       unfold maxLen; omega
      ·unfold Instr.buildSlice
       rw [aaa (aco hU)]
       simp only
       have h1:(sizeOf E).run P w=.ok inf.size w:=by unfold sizeOf; rw [aaa (acq hi)]; rfl
       rw [aaa h1]
       rw [if_neg (by omega)]
       have h2:(zeroValue E).run P w=.ok z w:=by unfold zeroValue; rw [aaa (acq hi)]; simp only [hz]; rfl
       simp only [Array.toList_map,e]
       have hf':Instr.fill (fun i =>some (i*inf.size,inf.size)) ((Array.range (m*inf.size)).map (z.cells[· % z.cells.size]!)) (ps.map fun p =>(p.1,aau ρ p.2))=some (aag ρ l').toArray:=by
        rw [← hf,Array.toArray_toList]
       simp only [if_neg (show ¬ m*inf.size=0 by omega)]
       rw [aaa h2]
       show (Sem.run P _ w)=_
       simp only [pure_bind,hf']
       unfold newRow newObj
       simp [Sem.run,World.alloc_eq]
     ·cases h
    ·cases h
   ·cases h
  ·cases h
 ·cases h
end
end
end Go.Proofs.YtidhehdanppcoaaGreat
