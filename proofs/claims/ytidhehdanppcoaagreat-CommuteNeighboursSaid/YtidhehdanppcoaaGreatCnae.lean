/- Evaluation by itself: slices whose cells are known one by one. No program occurs here. Evaluation by itself: kinds by their shapes. No program occurs here. Evaluation by itself: data from values,values from data. No program occurs here. Evaluation by itself: an element of a row,taken out of it. No program occurs here. Evaluation by itself,8: operations,regions. No program occurs here. -/
import Derived.Test.YtidhehdanppcoaaGreatCnad
import Derived.Test.YtidhehdanppcoaaGreatCnab
import Derived.Test.YtidhehdanppcoaaGreatCnac
set_option linter.all false
namespace Go.Proofs.YtidhehdanppcoaaGreat
section
open Go Go.RowKit
theorem aAV {b o:Nat} {xs ys:List Value} {h k:Hp} (a:apart h k) (p:pts b o xs h) (q:pts b (o+xs.length) ys k):pts b o (xs++ys) (ad3 h k):=fun i v hi =>by
 rcases Nat.lt_or_ge i xs.length with hl | hl
 ·rw [List.getElem?_append_left hl] at hi
  unfold ad3; rw [p i v hi]
 ·rw [List.getElem?_append_right hl] at hi
  have:=q (i-xs.length) v hi
  rw [show o+xs.length+(i-xs.length)=o+i by omega] at this
  rw [aq7 a]
  unfold ad3; rw [this]
def hpL (b o:Nat) (h:Hp):Hp:=fun x y =>if x=b∧y<o then h x y else none
def hpR (b o:Nat) (h:Hp):Hp:=fun x y =>if x=b∧y<o then none else h x y
theorem aED (b o:Nat) (h:Hp):apart (hpL b o h) (hpR b o h)∧h=ad3 (hpL b o h) (hpR b o h):=by
 refine ⟨fun x y =>?_,?_⟩
 ·by_cases hc:x=b∧y<o
  ·exact .inr (.inl (by unfold hpR; rw [if_pos hc]))
  ·exact .inl (by unfold hpL; rw [if_neg hc])
 ·funext x y
  unfold ad3 hpL hpR
  by_cases hc:x=b∧y<o
  ·rw [if_pos hc,if_pos hc]; cases h x y<;>rfl
  ·rw [if_neg hc,if_neg hc]
theorem azx {b o:Nat} {xs ys:List Value} {L:List aad} {h:Hp} (s:abW ((fun k =>pts b o (xs++ys) k)::L) h):abW (pts b o xs::pts b (o+xs.length) ys::L) h:=by
 obtain ⟨k1,k2,a,e,hp,hL⟩:=s
 obtain ⟨p1,p2⟩:=an3 hp
 obtain ⟨a1,e1⟩:=aED b (o+xs.length) k1
 have q1:pts b o xs (hpL b (o+xs.length) k1):=fun i v hi =>by
  have hl:=(List.getElem?_eq_some_iff.1 hi).1
  unfold hpL; rw [if_pos ⟨rfl,by omega⟩]; exact p1 i v hi
 have q2:pts b (o+xs.length) ys (hpR b (o+xs.length) k1):=fun i v hi =>by
  unfold hpR; rw [if_neg (by omega)]; exact p2 i v hi
 rw [e1] at a e
 have a2:=(aa9 a1).1 a
 refine ⟨_,ad3 (hpR b (o+xs.length) k1) k2,?_,by rw [e,adU],q1,_,k2,a2.2,rfl,q2,hL⟩
 exact aat ((aa9 a2.2).2 ⟨aat a1,aat a2.1⟩)
section
variable {K:KT}
def aDc {T:Nat→Type} {M:Type}:List (Fd T M)→Option (List V)
 | [] =>some []
 | .v x::l =>match aDc l with
  | some xs =>some (x::xs)
  | none =>none
 | .f _::_ =>none
theorem axL {T:Nat→Type} {M:Type}:∀ {l:List (Fd T M)} {vs:List V},aDc l=some vs→l=vs.map .v
 | [],vs,h =>by cases h; rfl
 | .v x::l,vs,h =>by
  unfold aDc at h
  split at h
  ·rename_i xs hx; cases h; rw [axL hx]; rfl
  ·cases h
 | .f _::_,_,h =>by cases h
theorem arc {ρ:Env}:∀ {vs:List V} {us:List Value} {L:List aad} {h:Hp},abW (fsS (fS K ρ) (vs.map .v) us++L) h→us=aah ρ vs∧abW L h
 | [],[],_,_,s =>⟨rfl,s⟩
 | v::vs,u::us,L,h,⟨k1,k2,a,e,h1,h2⟩ =>by
  have h1':u=aay ρ v:=h1
  obtain ⟨h3,h4⟩:=arc h2
  refine ⟨by rw [h1',h3]; rfl,?_⟩
  have s:abW (fS K ρ (.v v) u::(fsS (fS K ρ) (vs.map .v) us++L)) h:=⟨k1,k2,a,e,h1,h2⟩
  exact (arc (Ent.drop h s)).2
 | [],_::_,_,_,⟨_,_,_,_,hf,_⟩ =>hf.elim
 | _::_,[],_,_,⟨_,_,_,_,hf,_⟩ =>hf.elim
theorem aDz {ρ:Env} {B:Nat} {w:World} {H:KT.H K} {X:List aad} {id e m sz:Nat} {vs:List V} (s:Sat B w (dH K ρ H++X)) (hg:get H id=some (.slc e m sz)) (hg2:get (del H id) e=some (.cells (vs.map .v))) (hl:vs.length=m*sz) :
  (ρ.s id).n=m∧Sat B w (ae9 (ρ.s id).a m (ρ.s id).c sz (aah ρ vs)::(dH K ρ (del (del H id) e)++X)):=by
 have h1:=axV s hg
 refine ⟨h1.2,?_⟩
 have s1:=s.imp (aaV (ρ:=ρ) hg)
 obtain ⟨hh,Hh,k1,k2,a,e1,⟨⟨c1,c2,c3,c4⟩,spare,c5,c6⟩,hL⟩:=s1
 have s2:Sat B w (pts (ρ.p e).1 ((ρ.p e).2+m*sz) spare::(dH K ρ (del H id)++X)):=⟨hh,Hh,k1,k2,a,e1,c6,hL⟩
 have s3:=(s2.perm (List.perm_middle (l₁:=dH K ρ (del H id))).symm).imp (aaV (ρ:=ρ) hg2)
 obtain ⟨us,s4⟩:=ah6 s3
 have s5:Sat B w (fsS (fS K ρ) (vs.map .v) us++(pts (ρ.p e).1 (ρ.p e).2 us::(dH K ρ (del (del H id) e)++(pts (ρ.p e).1 ((ρ.p e).2+m*sz) spare::X)))):=s4.perm (List.perm_middle (l₁:=fsS (fS K ρ) (vs.map .v) us)).symm
 obtain ⟨h6,Hh6,s6⟩:=s5
 obtain ⟨rfl,s7⟩:=arc s6
 have s8:abW (pts (ρ.p e).1 (ρ.p e).2 (aah ρ vs)::pts (ρ.p e).1 ((ρ.p e).2+m*sz) spare::(dH K ρ (del (del H id) e)++X)) h6:=abM (List.Perm.cons _ (List.perm_middle (l₁:=dH K ρ (del (del H id) e)))) s7
 obtain ⟨j1,j2,ja,je,p1,j3,j4,ja2,je2,p2,jL⟩:=s8
 have hdl:(aah ρ vs).length=m*sz:=by rw [aaS,List.length_map,hl]
 subst je2
 have a3:=(aa9 ja2).1 (aat ja)
 refine ⟨h6,Hh6,ad3 j1 j3,j4,?_,by rw [je,adU],⟨hdl,c3,c4,.inr ⟨_,_,spare,c1,c5,?_⟩⟩,jL⟩
 ·exact (aa9 (aat a3.1)).2 ⟨aat a3.2,ja2⟩
 ·exact aAV (aat a3.1) p1 (by rw [hdl]; exact p2)
variable (K) in
def aGH (H:KT.H K) (sz:Nat):V→Option (Nat×List V×KT.H K)
 | .sl id =>match get H id with
  | some (.slc e m sz') =>match get (del H id) e with
   | some (.cells fs) =>match aDc fs with
    | some vs =>match Nat.beq sz' sz && Nat.beq vs.length (m*sz) with
     | true =>some (m,vs,del (del H id) e)
     | false =>none
    | none =>none
   | _ =>none
  | _ =>none
 | .c (.slice none 0 0) =>some (0,[],H)
 | _ =>none
theorem aDA {H:KT.H K} {sz:Nat} {x:V} {m:Nat} {vs:List V} {H1:KT.H K} (h:aGH K H sz x=some (m,vs,H1)) {ρ:Env} {B:Nat} {w:World} {X:List aad} (s:Sat B w (dH K ρ H++X)) :
  ∃ A cap,aay ρ x=.slice A m cap∧agm H1≤agm H∧vs.length=m*sz∧Sat B w (ae9 A m cap sz (aah ρ vs)::(dH K ρ H1++X)):=by
 unfold aGH at h
 split at h
 ·rename_i id
  split at h
  ·rename_i e m' sz' hg
   split at h
   ·rename_i fs hg2
    split at h
    ·rename_i us hv
     split at h
     ·rename_i hB
      cases h
      simp only [Bool.and_eq_true] at hB
      obtain rfl:=Nat.eq_of_beq_eq_true hB.1
      have hl:=Nat.eq_of_beq_eq_true hB.2
      rw [axL hv] at hg2
      obtain ⟨h1,h2⟩:=aDz s hg hg2 hl
      exact ⟨_,_,by rw [aay,h1],Nat.le_trans agl agl,hl,h2⟩
     ·cases h
    ·cases h
   ·cases h
  ·cases h
 ·cases h
  exact ⟨none,0,rfl,Nat.le_refl _,by simp,s.imp (arm _)⟩
 ·cases h
variable (K) in
def aMb (P:Program) (R:aa6) (n:Nat) (Z H:KT.H K) (T T':TypeId) (x y:V):Option (Nat×KT.H K×V) :=
 match Nat.beq T T' with
 | true =>match aiG P T with
  | some E =>match P.info? E with
   | some inf =>match y with
    | .sl id2 =>match get H id2 with
     | some (.arr m2 sz us) =>match aGH K (del H id2) sz x with
      | some (m,vs,H1) =>match Nat.beq inf.size sz && aIS inf.zero sz && Nat.blt 0 m2 && Nat.blt 0 sz && Nat.ble ((m+m2)*inf.bytes) 1000000 && Nat.ble (m+m2) 1000000 && (us.all (scV (del H id2)) && Nat.ble (ajh (vs++us)) n && acG K R n Z H && Nat.ble (agm H1) n) with
       | true =>some (n+2,(n,.slc (n+1) (m+m2) sz)::(n+1,.cells ((vs++us).map .v))::H1,.sl n)
       | false =>none
      | none =>none
     | _ =>none
    | _ =>none
   | none =>none
  | none =>none
 | false =>none
variable {P:Program} {nt n B:Nat} {W:World} {R:aa6} {Z H:KT.H K} {nx:Nat→KT.H K→V→Prop}
theorem aGu {o:Oper} {T T':TypeId} {x y:Operand} {u v:V} {n':Nat} {H':KT.H K} {r:V} (ho:o.op=.call ⟨.builtin .append,#[x,y],#[T,T']⟩) (hx:evO R x=some u) (hy:evO R y=some v) (h:aMb K P R n Z H T T' u v=some (n',H',r)) (hn:nx n' H' r) :
  afz K P nt B W o R n Z H nx:=fun F ρ a w s =>by
 obtain ⟨d,op,ty,ps,af,g⟩:=o
 simp only at ho
 subst ho
 have ex:=(aaO (ρ:=ρ) hx).eval s.regs
 have ey:=(aaO (ρ:=ρ) hy).eval s.regs
 unfold aMb at h
 split at h
 ·rename_i hT
  obtain rfl:=Nat.eq_of_beq_eq_true hT
  split at h
  ·rename_i E hE
   split at h
   ·rename_i inf hi
    split at h
    ·rename_i id2
     split at h
     ·rename_i m2 sz us hg2
      split at h
      ·rename_i m vs H1 hr
       split at h
       ·rename_i hB
        cases h
        simp only [Bool.and_eq_true,acG] at hB
        obtain ⟨⟨⟨⟨⟨⟨b1,b2⟩,b3⟩,b4⟩,b5⟩,b6⟩,⟨⟨b7,b8⟩,⟨⟨b9,b10⟩,b11⟩⟩,b12⟩:=hB
        have b1':=Nat.eq_of_beq_eq_true b1
        obtain ⟨z,hz,hzsz⟩:=asH b2
        have b3':0<m2:=Nat.le_of_ble_eq_true b3
        have b4':0<sz:=Nat.le_of_ble_eq_true b4
        have b5':=Nat.le_of_ble_eq_true b5
        have b6':=Nat.le_of_ble_eq_true b6
        have b8':=Nat.le_of_ble_eq_true b8
        have b10':=Nat.le_of_ble_eq_true b10
        have b12':=Nat.le_of_ble_eq_true b12
        obtain ⟨⟨a1,a2,a3⟩,s4⟩:=azg (X:=tl K Z F ρ) s.sat hg2
        have hsc:(aah ρ us).all aei=true:=by
         rw [aaS,List.all_map,List.all_eq_true]
         intro q hq
         exact aAE (List.all_eq_true.1 b7 q hq) s4.drop
        have s5:Sat B w (dH K ρ (del H id2)++(pts (ρ.p id2).1 (ρ.p id2).2 (aah ρ us)::tl K Z F ρ)):=s4.perm (List.perm_middle (l₁:=dH K ρ (del H id2))).symm
        obtain ⟨A,cap,hdx,htop,hvl,s6⟩:=aDA hr s5
        have s7:Sat B w (ae9 A m cap sz (aah ρ vs)::pts (ρ.p id2).1 (ρ.p id2).2 (aah ρ us)::(dH K ρ H1++tl K Z F ρ)):=s6.perm (List.Perm.cons _ (List.perm_middle (l₁:=dH K ρ H1)))
        obtain ⟨A',cap',w',hrun,c1,c2,c3⟩:=asB (ty:=ty) (c:=m2) (W:=W) (acC hE) ⟨inf,hi,hz,b1',rfl⟩ hzsz b4' s7 s.below s.lo (by rw [aaS]; simpa using a2) hsc b3' (by unfold maxLen; omega) (by omega)
        have:(execOp a.eval ⟨d,.call ⟨.builtin .append,#[x,y],#[T,T]⟩,ty,ps,af,g⟩).run P w=.ok (.value (.slice A' (m+m2) cap')) w':=by
         simp only [execOp,resolve,List.map_toArray,List.map_cons,List.map_nil,ex,ey,hdx,aay,a1]
         simp only [invoke,builtin]
         simp [hrun]
        rw [this]
        obtain ⟨r1,r2,r3,r4⟩:=agp c3 (List.mem_cons_self ..)
        have hA:∃ b o,A'=some ⟨b,o,none⟩:=by
         rcases r4 with ⟨_,r4⟩ | ⟨b,o,r4,_⟩
         ·omega
         ·exact ⟨b,o,r4⟩
        obtain ⟨b,o,rfl⟩:=hA
        let ρ':=(ρ.setP (n+1) (b,o)).setS n ⟨some ⟨b,o,none⟩,m+m2,cap'⟩
        have ha:aaB n ρ ρ':=((ajb ρ (n+1) (b,o)).le (Nat.le_succ _)).trans (acL _ n _) (Nat.le_refl _)
        refine ⟨⟨ρ',n+2,_,.sl n⟩,by simp [aay,ρ',Env.setS],⟨ha,Nat.le_add_right _ 2,(aco ha R (Nat.le_of_ble_eq_true b9)).symm,hn⟩,c1,c2,?_⟩
        have c4:Sat B w' (ae9 (some ⟨b,o,none⟩) (m+m2) cap' sz (aah ρ vs++aah ρ us)::(dH K ρ H1++tl K Z F ρ)):=(c3.perm (List.Perm.swap ..)).drop
        refine c4.imp fun k hk =>?_
        obtain ⟨k1,k2,ka,ke,⟨q1,q2,q3,q4⟩,hL⟩:=hk
        rcases q4 with ⟨q4,_⟩ | ⟨b',o',spare,q4,q5,q6⟩
        ·cases q4
        ·injection q4 with q4
         injection q4 with q4a q4b
         subst q4a q4b
         have hall:abW ((fun k =>pts b o ((aah ρ vs++aah ρ us)++spare) k)::(dH K ρ H1++tl K Z F ρ)) k:=⟨k1,k2,ka,ke,q6,hL⟩
         have hsp:=azx hall
         rw [q1] at hsp
         have e3:dH K ρ H1++tl K Z F ρ=dH K ρ' H1++tl K Z F ρ':=by rw [acH ha H1 b12',adP b10' ha]
         rw [e3] at hsp
         have e4:aah ρ vs++aah ρ us=aah ρ' (vs++us):=by rw [← arp,aeI ha _ b8']
         have hsw:abW (pts b (o+(m+m2)*sz) spare::pts b o (aah ρ vs++aah ρ us)::(dH K ρ' H1++tl K Z F ρ')) k:=aqo hsp
         refine aaJ (A':=ac6 K ρ' n (.slc (n+1) (m+m2) sz)) (fun q hq =>⟨⟨by simp [ρ',Env.setS,Env.setP],by simp [ρ',Env.setS],by simp [ρ',Env.setS]; exact q2,by simp [ρ',Env.setS]; exact q3⟩,spare,by simp [ρ',Env.setS]; exact q5,by simpa [ρ',Env.setS,Env.setP] using hq⟩) (abp (fun q hq =>?_) hsw)
         refine aaJ (A':=ac6 K ρ' (n+1) (.cells ((vs++us).map .v))) (fun q hq =>?_) hq
         refine ⟨aah ρ' (vs++us),?_⟩
         rw [e4] at hq
         have hq':abW [pts b o (aah ρ' (vs++us))] q:=⟨q,fun _ _ =>none,fun _ _ =>.inr (.inl rfl),by funext x y; unfold ad3; cases q x y<;>rfl,hq,trivial⟩
         have hq2:=abM (List.Perm.symm (List.perm_append_comm (l₁:=fsS (fS K ρ') ((vs++us).map .v) (aah ρ' (vs++us))) (l₂:=[pts b o (aah ρ' (vs++us))])).symm) (ajy (K:=K) hq')
         have hq3:=abM (List.perm_append_comm (l₁:=fsS (fS K ρ') ((vs++us).map .v) (aah ρ' (vs++us)))) (ajy (K:=K) hq')
         simpa [ρ',Env.setS,Env.setP] using hq3
       ·cases h
      ·cases h
     ·cases h
    ·cases h
   ·cases h
  ·cases h
 ·cases h
variable (K) in
def aIM (P:Program) (R:aa6) (H:KT.H K) (T:TypeId) (x y:Operand):Option ((Nat×Nat)×(Nat×Int×Nat)×IntKind) :=
 match evO R x with
 | some (.sl id) =>match get H id with
  | some (.slc e m sz) =>match ahn P T with
   | some sz' =>match Nat.beq sz' sz with
    | true =>match evO R y with
     | some u =>match amk u with
      | some (k,j,_) =>some ((e,0),(m,j,sz),k)
      | none =>none
     | none =>none
    | false =>none
   | none =>none
  | _ =>none
 | _ =>none
theorem aBU {ρ:Env} {T:TypeId} {x y:Operand} {id o len sz:Nat} {j:Int} {kk:IntKind} {X:List aad} {w0:World} (h:aIM K P R H T x y=some ((id,o),(len,j,sz),kk)) (s:Sat B w0 (dH K ρ H++X)) {a:Act} (r:Regs nt a (dR ρ R)) {i:Nat} (hi:i<len) (hj:j=((i:Nat):Int))
  {d:Option Tmp} {ty:TypeId} {ps:String} {af:Array Edge} {g:Option (Nat×Bool)} (w:World):(execOp a.eval ⟨d,.indexAddr T x y,ty,ps,af,g⟩).run P w=.ok (.value (aay ρ (.ptr id (o+i*sz)))) w:=by
 unfold aIM at h
 split at h
 ·rename_i id' hx
  split at h
  ·rename_i e m sz' hg
   split at h
   ·rename_i sz2 he
    split at h
    ·rename_i hsz
     split at h
     ·rename_i u hy
      split at h
      ·rename_i k' j' l' hi'
       cases h
       obtain rfl:=Nat.eq_of_beq_eq_true hsz
       have ex:=aaO (ρ:=ρ) hx
       have ey:=acy (ρ:=ρ) hy hi'
       obtain ⟨h1,h2⟩:=axV s hg
       simp only [aay,h1,h2] at ex
       have:=ajo (P:=P) (n:=nt) (d:=d) (ty:=ty) (ps:=ps) (af:=af) (g:=g) (i:=i) (o':=(ρ.p id).2+(0+i*sz2)) ex ey hj hi he (by omega)
       exact this a w r
      ·cases h
     ·cases h
    ·cases h
   ·cases h
  ·cases h
 ·cases h
theorem aEM {ρ:Env} {T:TypeId} {x y:Operand} {q:Nat×Nat} {len sz:Nat} {j:Int} {kk:IntKind} (h:aIM K P R H T x y=some (q,(len,j,sz),kk)):∃ u,evO R y=some u∧aay ρ u=.int kk j:=by
 unfold aIM at h
 split at h
 ·split at h
  ·split at h
   ·split at h
    ·split at h
     ·rename_i u hy
      split at h
      ·rename_i hi
       cases h; exact ⟨u,hy,alg hi⟩
      ·cases h
     ·cases h
    ·cases h
   ·cases h
  ·cases h
 ·cases h
end
inductive Sh where
 | i (k:IntKind)
 | b
 | own (c:Nat)
 | row (c:Nat)
 | ro (c:Nat)
 | rr (c:Nat)
 | mach
 | o
section
variable (T:Nat→Type) (M:Type)
def shT:Sh→Type
 | .i _ =>Int
 | .b =>Bool
 | .own c =>T c
 | .row c =>List (T c)
 | .ro c =>List (T c)
 | .rr c =>List (List (T c))
 | .mach =>M
 | .o =>Unit
def HL:List Sh→Type
 | [] =>Unit
 | s::l =>shT T M s×HL l
def vw1:(s:Sh)→shT T M s→Fl T M
 | .i k,x =>.i k x
 | .b,x =>.b x
 | .own c,x =>.own c x
 | .row c,x =>.row c x
 | .ro c,x =>.ro c x
 | .rr c,x =>.rr c x
 | .mach,x =>.mach x
 | .o,_ =>.o
def vwP:(l:List Sh)→HL T M l→List (Fl T M)
 | [],_ =>[]
 | s::l,p =>vw1 T M s p.1::vwP l p.2
def cst {F:Nat→Type} (c c':Nat) (x:F c):Option (F c'):=if h:c=c' then some (h▸x) else none
theorem ay1 {F:Nat→Type} {c c':Nat} {x:F c} {y:F c'} (h:cst c c' x=some y):∃ e:c=c',y=e▸x:=by
 unfold cst at h
 split at h
 ·rename_i e; cases h; exact ⟨e,rfl⟩
 ·cases h
def aMl:IntKind→IntKind→Bool
 | .i64,.i64 =>true
 | .u64,.u64 =>true
 | .u8,.u8 =>true
 | _,_ =>false
theorem aIx {k k':IntKind} (h:aMl k k'=true):k=k':=by cases k<;>cases k'<;>first | rfl | cases h
def bk1:(s:Sh)→Fl T M→Option (shT T M s)
 | .i k =>fun f =>match f with
  | .i k' x =>match aMl k' k with
   | true =>some x
   | false =>none
  | _ =>none
 | .b =>fun f =>match f with
  | .b x =>some x
  | _ =>none
 | .own c =>fun f =>match f with
  | .own c' x =>cst (F:=T) c' c x
  | _ =>none
 | .row c =>fun f =>match f with
  | .row c' x =>cst (F:=fun c =>List (T c)) c' c x
  | _ =>none
 | .ro c =>fun f =>match f with
  | .ro c' x =>cst (F:=fun c =>List (T c)) c' c x
  | _ =>none
 | .rr c =>fun f =>match f with
  | .rr c' x =>cst (F:=fun c =>List (List (T c))) c' c x
  | _ =>none
 | .mach =>fun f =>match f with
  | .mach x =>some x
  | _ =>none
 | .o =>fun f =>match f with
  | .o =>some ()
  | _ =>none
theorem aCD {s:Sh} {f:Fl T M} {x:shT T M s} (h:bk1 T M s f=some x):vw1 T M s x=f:=by
 cases s with
 | i k =>
  cases f<;>first | (have h':(none:Option (shT T M (.i k)))=some x:=h; cases h'; done) | skip
  rename_i k' y
  have h':(match aMl k' k with | true =>some y | false =>none)=some x:=h
  split at h'
  ·rename_i e; cases h'; rw [aIx e]; rfl
  ·cases h'
 | b =>
  cases f<;>first | (have h':(none:Option (shT T M .b))=some x:=h; cases h'; done) | skip
  rename_i y
  have h':some y=some x:=h
  cases h'; rfl
 | own c =>
  cases f<;>first | (have h':(none:Option (shT T M (.own c)))=some x:=h; cases h'; done) | skip
  rename_i c' y
  obtain ⟨e,h2⟩:=ay1 (show cst (F:=T) c' c y=some x from h)
  subst e; subst h2; rfl
 | row c =>
  cases f<;>first | (have h':(none:Option (shT T M (.row c)))=some x:=h; cases h'; done) | skip
  rename_i c' y
  obtain ⟨e,h2⟩:=ay1 (show cst (F:=fun c =>List (T c)) c' c y=some x from h)
  subst e; subst h2; rfl
 | ro c =>
  cases f<;>first | (have h':(none:Option (shT T M (.ro c)))=some x:=h; cases h'; done) | skip
  rename_i c' y
  obtain ⟨e,h2⟩:=ay1 (show cst (F:=fun c =>List (T c)) c' c y=some x from h)
  subst e; subst h2; rfl
 | rr c =>
  cases f<;>first | (have h':(none:Option (shT T M (.rr c)))=some x:=h; cases h'; done) | skip
  rename_i c' y
  obtain ⟨e,h2⟩:=ay1 (show cst (F:=fun c =>List (List (T c))) c' c y=some x from h)
  subst e; subst h2; rfl
 | mach =>
  cases f<;>first | (have h':(none:Option (shT T M .mach))=some x:=h; cases h'; done) | skip
  rename_i y
  have h':some y=some x:=h
  cases h'; rfl
 | o =>
  cases f<;>first | (have h':(none:Option (shT T M .o))=some x:=h; cases h'; done) | skip
  rfl
def bkP:(l:List Sh)→List (Fl T M)→Option (HL T M l)
 | [],[] =>some ()
 | s::l,f::fs =>match bk1 T M s f with
  | some x =>match bkP l fs with
   | some p =>some (x,p)
   | none =>none
  | none =>none
 | _,_ =>none
theorem aCC:∀ {l:List Sh} {fs:List (Fl T M)} {p:HL T M l},bkP T M l fs=some p→vwP T M l p=fs
 | [],[],p,_ =>rfl
 | s::l,f::fs,p,h =>by
  unfold bkP at h
  split at h
  ·rename_i x hx
   split at h
   ·rename_i q hq
    cases h
    show vw1 T M s x::vwP T M l q=_
    rw [aCD _ _ hx,aCC hq]
   ·cases h
  ·cases h
 | [],_::_,_,h =>by cases h
 | _::_,[],_,h =>by cases h
theorem aI0 (s:Sh) (x:shT T M s) (u:Value):vw1 T M s x≠.c u:=by cases s<;>exact fun h =>by cases h
theorem aFr:∀ (l:List Sh) (p:HL T M l),∀ f∈vwP T M l p,∀ u,f≠.c u
 | [],_,f,h,_ =>by cases h
 | s::l,p,f,h,u =>by
  rcases List.mem_cons.1 (show f∈vw1 T M s p.1::vwP T M l p.2 from h) with e | e
  ·subst e; exact aI0 T M s p.1 u
  ·exact aFr l p.2 f e u
theorem az9:∀ {l:List Sh} {p:HL T M l},(vwP T M l p).length=l.length
 | [],_ =>rfl
 | s::l,p =>by
  show (vw1 T M s p.1::vwP T M l p.2).length=_
  rw [List.length_cons,az9,List.length_cons]
def aJw:List Sh→Bool
 | [] =>true
 | s::l =>match s with
  | .i _ =>aJw l
  | .b =>aJw l
  | _ =>false
theorem awD:∀ (l:List Sh) (p:HL T M l),aJw l=true→alI (vwP T M l p)=true
 | [],_,_ =>rfl
 | .i k::l,p,h =>awD l p.2 h
 | .b::l,p,h =>awD l p.2 h
 | .own _::_,_,h =>by cases h
 | .row _::_,_,h =>by cases h
 | .ro _::_,_,h =>by cases h
 | .rr _::_,_,h =>by cases h
 | .mach::_,_,h =>by cases h
 | .o::_,_,h =>by cases h
end
structure Shp where
 T:Nat→Type
 M:Type
 sh:Nat→List Sh
 to_:(c:Nat)→T c→HL T M (sh c)
 of:(c:Nat)→HL T M (sh c)→T c
 ok:∀ c p,to_ c (of c p)=p
 df:(c:Nat)→T c
 tid:Nat→TypeId
 tk:TypeId→Option Nat
 spl:M→Option (Σ c:Nat,T c)
 nilM:M
 nilM_ok:spl nilM=none
 mkM:(c:Nat)→T c→Option M
 mkM_ok:∀ c x m,mkM c x=some m→spl m=some ⟨c,x⟩
 kd:TypeId→Option Nat
 kd_ok:∀ t c,kd t=some c→tid c=t
 ls:(c c':Nat)→Option (PLift (T c'=List (T c)))
 ls_ok:∀ c c' h,ls c c'=some h→∀ x,vwP T M (sh c') (to_ c' x)=[.ro c (h.down▸x)]∨(vwP T M (sh c') (to_ c' x)=[.row c (h.down▸x)]∧aJw (sh c)=true∧0<(sh c).length)
abbrev Shp.kt (S:Shp):KT where
 T:=S.T
 M:=S.M
 df:=S.df
 sz:=fun c =>(S.sh c).length
 vw:=fun c x =>vwP S.T S.M (S.sh c) (S.to_ c x)
 bk:=fun c l =>(bkP S.T S.M (S.sh c) l).map (S.of c)
 bk_ok:=fun c l x h =>by
  simp only [Option.map_eq_some_iff] at h
  obtain ⟨p,hp,rfl⟩:=h
  rw [S.ok]; exact aCC _ _ hp
 sz_ok:=fun c x =>az9 _ _
 pl:=fun c =>aJw (S.sh c)
 pl_ok:=fun c h x =>awD _ _ _ _ h
 nc:=fun c x =>aFr _ _ _ _
 tid:=S.tid
 tk:=S.tk
 spl:=S.spl
 nilM:=S.nilM
 nilM_ok:=S.nilM_ok
 mkM:=S.mkM
 mkM_ok:=S.mkM_ok
 kd:=S.kd
 kd_ok:=S.kd_ok
 ls:=S.ls
 ls_ok:=S.ls_ok
theorem aap {α:Type _} {l m:List α} (h:∀ (f:List α→Nat) (g:α→Nat),(∀ x y,f (x++y)=f x+f y)→(∀ a x,f (a::x)=g a+f x)→f []=0→f l=f m):l.Perm m:=by
 classical
 rw [List.perm_iff_count]
 intro a
 refine h (fun l =>l.count a) (fun x =>if x == a then 1 else 0) (fun x y =>List.count_append) (fun b x =>?_) rfl
 simp only [List.count_cons]; omega
theorem aqh {T:Nat→Type} {M:Type}:∀ l:List (Fl T M),amu (l.map (Fd.f:Fl T M→Fd T M))=0
 | [] =>rfl
 | _::l =>by simp only [List.map_cons,amu,aqh l,aFs]; rfl
theorem afM {B:Nat} {w:World} {N L:List aad} {A:aad} (f:∀ h,abW N h→A h) (s:Sat B w (N++L)):Sat B w (A::L):=by
 obtain ⟨h,Hh,hs⟩:=s
 obtain ⟨k1,k2,a,e,g1,g2⟩:=aaj.1 hs
 exact ⟨h,Hh,k1,k2,a,e,f _ g1,g2⟩
section
variable (S:Shp)
def chL (n:Nat):Option (Ch S.T S.M)→List (Nat×Ch S.T S.M)
 | none =>[]
 | some c =>[(n,c)]
def opL:Nat→List (Fl S.T S.M)→List V×List (Nat×Ch S.T S.M)
 | _,[] =>([],[])
 | n,f::l =>((opF S.kt.vw n (.f f)).1::(opL (n+1) l).1,chL S n (opF S.kt.vw n (.f f)).2++(opL (n+1) l).2)
def dfS:(s:Sh)→shT S.T S.M s
 | .i _ =>(0:Int)
 | .b =>false
 | .own c =>S.df c
 | .row _ =>[]
 | .ro _ =>[]
 | .rr _ =>[]
 | .mach =>S.nilM
 | .o =>()
def azY (H:S.kt.H) (s:Sh) (v:V):Option (shT S.T S.M s×S.kt.H) :=
 match asm S.kt H (vw1 S.T S.M s (dfS S s)) v with
 | some (f,H') =>match bk1 S.T S.M s f with
  | some x =>some (x,H')
  | none =>none
 | none =>none
def roZ (Z:S.kt.H) (s:Sh) (v:V):Option (shT S.T S.M s) :=
 match s with
 | .ro c =>match v with
  | .sl id =>match get Z id with
   | some (.ro c' xs) =>aov c' c xs
   | _ =>none
  | _ =>none
 | _ =>none
def aLo (Z H:S.kt.H) (s:Sh) (v:V):Option (shT S.T S.M s×S.kt.H) :=
 match azY S H s v with
 | some r =>some r
 | none =>match roZ S Z s v with
  | some x =>some (x,H)
  | none =>none
end
section
variable {S:Shp} {B:Nat} {w:World}
theorem dHa {ρ:Env} (H H':List (Nat×Ch S.T S.M)):dH S.kt ρ (H++H')=dH S.kt ρ H++dH S.kt ρ H':=by simp [dH]
theorem aoX {n:Nat} {f:Fl S.T S.M} {v:Value} {ρ:Env} {Y:List aad} {X:Env→List aad} (hX:∀ ρ ρ',aaB n ρ ρ'→X ρ=X ρ') (s:Sat B w (pcS S.kt f v::(Y++X ρ))) :
  ∃ ρ',aaB n ρ ρ'∧v=aay ρ' (opF S.kt.vw n (.f f)).1∧Sat B w (Y++(dH S.kt ρ' (chL S n (opF S.kt.vw n (.f f)).2)++X ρ')):=by
 obtain ⟨h,Hh,k1,k2,a,e,hA,hL⟩:=s
 obtain ⟨ρ',ha,hv,hd⟩:=aBq (K:=S.kt) (ρ:=ρ) (n:=n) (f:=.f f) (Nat.zero_le _) hA
 refine ⟨ρ',ha,hv,?_⟩
 rw [hX ρ ρ' ha] at hL
 cases hc:(opF S.kt.vw n (.f f)).2 with
 | none =>
  have:Sat B w (pcS S.kt f v::(Y++X ρ')):=⟨h,Hh,k1,k2,a,e,hA,hL⟩
  exact this.imp Ent.drop
 | some c =>
  rw [hc] at hd
  have:Sat B w (ac6 S.kt ρ' n c::(Y++X ρ')):=⟨h,Hh,k1,k2,a,e,hd,hL⟩
  exact this.perm (List.perm_middle (l₁:=Y)).symm
theorem axq {n:Nat} {f:Fl S.T S.M} {ρ ρ':Env} (h:aaB (n+1) ρ ρ'):dH S.kt ρ (chL S n (opF S.kt.vw n (.f f)).2)=dH S.kt ρ' (chL S n (opF S.kt.vw n (.f f)).2):=by
 cases hc:(opF S.kt.vw n (.f f)).2 with
 | none =>rfl
 | some c =>
  have:=(aiu (K:=S.kt) (n:=n) (f:=.f f) (Nat.zero_le _)).2 c hc
  refine acH h _ ?_
  exact arM ⟨arM ⟨Nat.le_refl _,Nat.le_succ_of_le this⟩,Nat.zero_le _⟩
theorem am2:∀ {l:List (Fl S.T S.M)} {n:Nat} {ρ ρ':Env},aaB (n+l.length) ρ ρ'→aah ρ (opL S n l).1=aah ρ' (opL S n l).1∧dH S.kt ρ (opL S n l).2=dH S.kt ρ' (opL S n l).2
 | [],_,_,_,_ =>⟨rfl,rfl⟩
 | f::l,n,ρ,ρ',a =>by
  have a':aaB (n+1+l.length) ρ ρ':=a.le (by simp only [List.length_cons]; omega)
  obtain ⟨t3,t4⟩:=am2 a'
  have htop:=(aiu (K:=S.kt) (n:=n) (f:=.f f) (Nat.zero_le _)).1
  simp only [opL,aah,dHa]
  rw [aa5 (a.le (by simp only [List.length_cons]; omega)) _ htop,t3,axq (a.le (by simp only [List.length_cons]; omega)),t4]
  exact ⟨rfl,rfl⟩
theorem aBp:∀ {l:List (Fl S.T S.M)} {n:Nat} {us:List Value} {ρ:Env} {Y:List aad} {X:Env→List aad},(∀ ρ ρ',aaB n ρ ρ'→X ρ=X ρ')→Sat B w (fsS (pcS S.kt) l us++(Y++X ρ)) →
  ∃ ρ',aaB n ρ ρ'∧us=aah ρ' (opL S n l).1∧Sat B w (Y++(dH S.kt ρ' (opL S n l).2++X ρ'))
 | [],n,us,ρ,Y,X,hX,s =>by
  have:=akl (pc:=pcS S.kt) (A:=fun _ =>True) (abw (p:=fun _ =>True) s fun _ =>trivial)
  cases us with
  | nil =>exact ⟨ρ,aaB.refl _ _,rfl,s⟩
  | cons u us =>cases this
 | f::l,n,us,ρ,Y,X,hX,s =>by
  have hlen:=akl (pc:=pcS S.kt) (A:=fun _ =>True) (abw (p:=fun _ =>True) s fun _ =>trivial)
  cases us with
  | nil =>cases hlen
  | cons u us =>
   obtain ⟨ρ1,a1,e1,s1⟩:=aoX (Y:=fsS (pcS S.kt) l us++Y) (X:=X) hX (by
    rw [List.append_assoc]; exact s)
   have hX1:∀ ρ ρ',aaB (n+1) ρ ρ'→(fun ρ =>dH S.kt ρ (chL S n (opF S.kt.vw n (.f f)).2)++X ρ) ρ=(fun ρ =>dH S.kt ρ (chL S n (opF S.kt.vw n (.f f)).2)++X ρ) ρ':=fun ρ ρ' h =>by
    show _++_=_++_
    rw [axq h,hX _ _ (h.le (Nat.le_succ n))]
   rw [List.append_assoc] at s1
   obtain ⟨ρ2,a2,e2,s2⟩:=aBp (n:=n+1) (X:=fun ρ =>dH S.kt ρ (chL S n (opF S.kt.vw n (.f f)).2)++X ρ) hX1 s1
   have htop:=(aiu (K:=S.kt) (n:=n) (f:=.f f) (Nat.zero_le _)).1
   refine ⟨ρ2,a1.trans a2 (Nat.le_succ n),?_,?_⟩
   ·simp only [opL,aah]
    rw [e1,← e2,aa5 a2 _ htop]
   ·simp only [opL,dHa]
    refine s2.perm (List.Perm.append_left _ ?_)
    rw [List.append_assoc]
    exact adK _ _ _
theorem aw6 {n:Nat} {f:Fl S.T S.M} {X:Env→List aad} (hX:∀ ρ ρ',aaB n ρ ρ'→X ρ=X ρ'):∀ ρ ρ',aaB (n+1) ρ ρ'→(fun ρ =>dH S.kt ρ (chL S n (opF S.kt.vw n (.f f)).2)++X ρ) ρ=(fun ρ =>dH S.kt ρ (chL S n (opF S.kt.vw n (.f f)).2)++X ρ) ρ':=fun ρ ρ' h =>by
 show _++_=_++_
 rw [axq h,hX _ _ (h.le (Nat.le_succ n))]
theorem aKm {n m:Nat} {l:List (Fl S.T S.M)} (hm:l.length=m) {X:Env→List aad} (hX:∀ ρ ρ',aaB n ρ ρ'→X ρ=X ρ'):∀ ρ ρ',aaB (n+m) ρ ρ'→(fun ρ =>dH S.kt ρ (opL S n l).2++X ρ) ρ=(fun ρ =>dH S.kt ρ (opL S n l).2++X ρ) ρ':=fun ρ ρ' h =>by
 subst hm
 show _++_=_++_
 rw [(am2 h).2,hX _ _ (h.le (Nat.le_add_right ..))]
theorem aiC {H H':S.kt.H} {s0:Sh} {v:V} {x:shT S.T S.M s0} (h:azY S H s0 v=some (x,H')) {ρ:Env} {X:List aad} (s:Sat B w (dH S.kt ρ H++X)):Sat B w (pcS S.kt (vw1 S.T S.M s0 x) (aay ρ v)::(dH S.kt ρ H'++X)):=by
 unfold azY at h
 split at h
 ·rename_i f H1 hf
  split at h
  ·rename_i y hy
   cases h
   rw [aCD _ _ hy]
   exact arF _ _ _ _ _ hf ρ X B w s
  ·cases h
 ·cases h
end
section
variable {S:Shp} {B:Nat} {w:World} {ρ:Env}
theorem aG3 {id c:Nat} {xs:List (S.T c)} {H:S.kt.H} (hg:get H id=some (.ro c xs)) {X:List aad} (s:Sat B w (dH S.kt ρ H++X)):Sat B w (pcS S.kt (.ro c xs) (aay ρ (.sl id))::(dH S.kt ρ H++X)):=by
 have hv:=akk (K:=S.kt) s (.inr hg)
 obtain ⟨h0,H0,t0⟩:=s
 refine ⟨h0,H0,?_⟩
 obtain ⟨j1,j2,a1,e1,⟨_,m2⟩,mL⟩:=aaV (ρ:=ρ) hg h0 t0
 obtain ⟨p,hp,hΦ⟩:=m2
 have hpp:∀ b o x,p b o=some x→(∃ v,x=.look v)∧h0 b o=some x:=fun b o x hx =>⟨(hp b o x hx).1,by rw [e1]; unfold ad3; rw [(hp b o x hx).2]⟩
 refine ⟨p,h0,fun b o =>?_,?_,aax.2 (show pcW S.kt (obS S.kt) (rwS S.kt) (.ro c xs) (aay ρ (.sl id)) p from ⟨_,_,hv,p,fun b o x hx =>⟨(hpp b o x hx).1,hx⟩,hΦ⟩),t0⟩
 ·cases hpb:p b o with
  | none =>exact .inl rfl
  | some x =>
   obtain ⟨⟨v,rfl⟩,h2⟩:=hpp b o x hpb
   exact .inr (.inr ⟨v,rfl,h2⟩)
 ·funext b o
  unfold ad3
  cases hpb:p b o with
  | none =>rfl
  | some x =>exact (hpp b o x hpb).2
theorem aCJ {Z H H':S.kt.H} {s0:Sh} {v:V} {x:shT S.T S.M s0} (h:aLo S Z H s0 v=some (x,H')) {X:List aad} (s:Sat B w (dH S.kt ρ H++(dH S.kt ρ Z++X))):Sat B w (pcS S.kt (vw1 S.T S.M s0 x) (aay ρ v)::(dH S.kt ρ H'++(dH S.kt ρ Z++X))):=by
 unfold aLo at h
 split at h
 ·rename_i h1; cases h; exact aiC h1 s
 ·split at h
  ·rename_i y hy
   cases h
   cases s0 with
   | ro c =>
    cases v with
    | sl id =>
     have hy':(match get Z id with | some (.ro c' xs) =>aov c' c xs | _ =>none)=some x:=hy
     cases hg:get Z id with
     | none =>rw [hg] at hy'; exact absurd hy' (by simp)
     | some ch =>
      rw [hg] at hy'
      cases ch with
      | ro c' xs =>
       obtain ⟨e,h2⟩:=ahp hy'
       subst e
       subst h2
       have s1:Sat B w (dH S.kt ρ Z++(dH S.kt ρ H++X)):=s.perm (adK _ _ _)
       exact (aG3 hg s1).perm (List.Perm.cons _ (adK _ _ _))
      | _ =>exact absurd hy' (by simp)
    | _ =>exact (by have hy':(none:Option _)=some x:=hy; cases hy')
   | _ =>exact (by have hy':(none:Option _)=some x:=hy; cases hy')
  ·cases h
end
section
variable {K:KT} {B:Nat} {w:World} {ρ:Env}
theorem aEF {H:KT.H K} {e j c:Nat} {i:Int} {xs:List (K.T c)} {X:List aad} (hel:get H e=some (.elt j i (K.sz c))) (hg:get H j=some (.row c xs)) (s:Sat B w (dH K ρ H++X)) :
  Sat B w (ac6 K ρ e (.cells ((K.vw c (atL (K.df c) xs i)).map .f))::ac6 K ρ j (.gap c xs i e)::(dH K ρ (del H j)++X)):=by
 obtain ⟨hi,b,o2,hA,hp⟩:=avK s hel
 obtain ⟨hn,vss,h2,h3,s2⟩:=alG s hg
 rw [hn] at hi
 have hxi:=adL (d:=K.df c) hi
 have hlt:i.toNat<vss.length:=by omega
 have hvs:vss[i.toNat]?=some vss[i.toNat]:=List.getElem?_eq_getElem hlt
 have hvl:=h3 _ (List.getElem_mem hlt)
 obtain ⟨hh,Hh,k1,k2,a,e1,⟨r1,r2,r3,r4⟩,hL⟩:=s2
 rcases r4 with ⟨r4,_⟩ | ⟨b',o',spare,hA',hsp,hpts⟩
 ·rw [r4] at hA; cases hA
 ·rw [hA] at hA'
  cases hA'
  obtain ⟨N,p1,p2⟩:=aiJ (pc:=pcS K) hxi hvs
  have hfl:=aeG h3
  have hlow:i.toNat*K.sz c+K.sz c≤vss.flatten.length:=by
   rw [hfl]
   have:(i.toNat+1)*K.sz c≤vss.length*K.sz c:=Nat.mul_le_mul_right _ hlt
   rw [Nat.add_mul] at this; omega
  have hmid:(vss.flatten.drop (i.toNat*K.sz c)).take (K.sz c)=vss[i.toNat]:=by
   apply List.ext_getElem?
   intro q
   by_cases hq:q<K.sz c
   ·rw [List.getElem?_take_of_lt hq,List.getElem?_drop]
    rw [ali h3 hvs (v:=(vss[i.toNat])[q]'(by omega)) (List.getElem?_eq_getElem _),List.getElem?_eq_getElem]
   ·rw [List.getElem?_eq_none (by rw [List.length_take,List.length_drop]; omega),List.getElem?_eq_none (by omega)]
  have e2:vss.flatten++spare=vss.flatten.take (i.toNat*K.sz c)++(vss[i.toNat]++(vss.flatten.drop (i.toNat*K.sz c+K.sz c)++spare)):=by
   rw [← hmid,← List.drop_drop,← List.append_assoc (List.take _ _),← List.append_assoc,List.append_assoc (List.take (i.toNat*K.sz c) _),List.take_append_drop,List.take_append_drop]
  have t1:Sat B w (pts b o2 (vss.flatten.take (i.toNat*K.sz c)++(vss[i.toNat]++(vss.flatten.drop (i.toNat*K.sz c+K.sz c)++spare)))::(abX K (pcS K) c xs vss++(dH K ρ (del H j)++X))):=by
   rw [← e2]; exact ⟨hh,Hh,k1,k2,a,e1,hpts,hL⟩
  have t2:=t1.imp an1
  have htl:(vss.flatten.take (i.toNat*K.sz c)).length=i.toNat*K.sz c:=by rw [List.length_take]; omega
  rw [htl] at t2
  have t3:=(t2.perm (List.Perm.swap ..)).imp an1
  rw [hvl] at t3
  have t4:Sat B w ((pts b (o2+i.toNat*K.sz c) vss[i.toNat]::fsS (pcS K) (K.vw c (atL (K.df c) xs i)) vss[i.toNat])++((pts b o2 (vss.flatten.take (i.toNat*K.sz c))::pts b (o2+i.toNat*K.sz c+K.sz c) (vss.flatten.drop (i.toNat*K.sz c+K.sz c)++spare)::N)++(dH K ρ (del H j)++X))):=by
   refine t3.perm ?_
   simp only [List.cons_append]
   refine List.Perm.cons _ ?_
   refine (List.Perm.swap ..).trans ?_
   refine List.Perm.trans ?_ (List.perm_middle).symm
   refine List.Perm.cons _ ?_
   refine List.Perm.trans ?_ (List.perm_middle).symm
   refine List.Perm.cons _ ?_
   exact (p1.append_right _).trans (by rw [List.append_assoc])
  have t5:Sat B w (ac6 K ρ e (.cells ((K.vw c (atL (K.df c) xs i)).map .f))::((pts b o2 (vss.flatten.take (i.toNat*K.sz c))::pts b (o2+i.toNat*K.sz c+K.sz c) (vss.flatten.drop (i.toNat*K.sz c+K.sz c)++spare)::N)++(dH K ρ (del H j)++X))):=by
   refine afM (fun k hk =>⟨vss[i.toNat],?_⟩) t4
   show abW (pts (ρ.p e).1 (ρ.p e).2 vss[i.toNat]::fsS (fS K ρ) (List.map Fd.f (K.vw c (atL (K.df c) xs i))) vss[i.toNat]) k
   rw [hp,ara (pcS K) (fS K ρ) (fun x v =>rfl)]
   exact hk
  have t6:=t5.perm (List.perm_middle (l₁:=pts b o2 (vss.flatten.take (i.toNat*K.sz c))::pts b (o2+i.toNat*K.sz c+K.sz c) (vss.flatten.drop (i.toNat*K.sz c+K.sz c)++spare)::N) (l₂:=dH K ρ (del H j)++X)).symm
  have t7:Sat B w (ac6 K ρ j (.gap c xs i e)::(ac6 K ρ e (.cells ((K.vw c (atL (K.df c) xs i)).map .f))::(dH K ρ (del H j)++X))):=by
   refine afM (fun k hk =>?_) t6
   exact ⟨b,o2,vss,spare,N,hi,⟨hA,hn,hp⟩,⟨by omega,h3⟩,⟨r2,r3,hsp⟩,fun x' vs' =>p2 x' vs',hk⟩
  exact t7.perm (List.Perm.swap ..)
theorem aBM {H H1:KT.H K} {e j c:Nat} {i:Int} {xs:List (K.T c)} {fs:List (Fd K.T K.M)} {l:List (Fl K.T K.M)} {x:K.T c} {X:List aad} (hg:get H j=some (.gap c xs i e)) (he:get (del H j) e=some (.cells fs))
  (hl:awf K (asm K) (del (del H j) e) (K.vw c (K.df c)) fs=some (l,H1)) (hx:K.bk c l=some x) (s:Sat B w (dH K ρ H++X)) :
  Sat B w (ac6 K ρ e (.elt j i (K.sz c))::ac6 K ρ j (.row c (xs.set i.toNat x))::(dH K ρ H1++X)):=by
 have s0:=s.imp (aaV (ρ:=ρ) hg)
 have s1:Sat B w (dH K ρ (del H j)++(ac6 K ρ j (.gap c xs i e)::X)):=s0.perm (List.perm_middle (l₁:=dH K ρ (del H j))).symm
 obtain ⟨vs,s2⟩:=ah6 (s1.imp (aaV (ρ:=ρ) he))
 have hlen:=akl s2
 have s3:Sat B w (fsS (fS K ρ) fs vs++(dH K ρ (del (del H j) e)++(pts (ρ.p e).1 (ρ.p e).2 vs::ac6 K ρ j (.gap c xs i e)::X))):=s2.perm (aap fun f g h1 h2 h3 =>by simp only [h1,h2,h3]; omega)
 have s4:=ajN arF hl s3
 have hv:(K.vw c x).length=vs.length:=by
  have e1:=K.bk_ok _ _ _ hx
  rw [e1]
  have:=akl (A:=fun _ =>True) (abw s4 fun _ =>trivial)
  exact this
 rw [K.sz_ok] at hv
 rw [← K.bk_ok _ _ _ hx] at s4
 have s5:Sat B w (ac6 K ρ j (.gap c xs i e)::((pts (ρ.p e).1 (ρ.p e).2 vs::fsS (pcS K) (K.vw c x) vs)++(dH K ρ H1++X))):=s4.perm (aap fun f g h1 h2 h3 =>by simp only [h1,h2,h3]; omega)
 obtain ⟨h',Hh',j1,j2,a',e',⟨b,o,vss,spare,N,hi,⟨hA,hn,hq⟩,⟨hvl,hvz⟩,⟨hc1,hc2,hc3⟩,hperm,hst⟩,hL'⟩:=s5
 have s6:Sat B w ((pts b o (vss.flatten.take (i.toNat*K.sz c))::pts b (o+i.toNat*K.sz c+K.sz c) (vss.flatten.drop (i.toNat*K.sz c+K.sz c)++spare)::N)++((pts (ρ.p e).1 (ρ.p e).2 vs::fsS (pcS K) (K.vw c x) vs)++(dH K ρ H1++X))):=⟨h',Hh',aaj.2 ⟨j1,j2,a',e',hst,hL'⟩⟩
 rw [hq] at s6
 have hlt:i.toNat<vss.length:=by omega
 have hvs:vss[i.toNat]?=some vss[i.toNat]:=List.getElem?_eq_getElem hlt
 have hfl:=aeG hvz
 have hlow:i.toNat*K.sz c+K.sz c≤vss.flatten.length:=by
  rw [hfl]
  have:(i.toNat+1)*K.sz c≤vss.length*K.sz c:=Nat.mul_le_mul_right _ hlt
  rw [Nat.add_mul] at this; omega
 have htl:(vss.flatten.take (i.toNat*K.sz c)).length=i.toNat*K.sz c:=by rw [List.length_take]; omega
 have s7:Sat B w (pts b (o+i.toNat*K.sz c) vs::pts b (o+i.toNat*K.sz c+K.sz c) (vss.flatten.drop (i.toNat*K.sz c+K.sz c)++spare)::(pts b o (vss.flatten.take (i.toNat*K.sz c))::(fsS (pcS K) (K.vw c x) vs++N)++(dH K ρ H1++X))):=s6.perm (aap fun f g h1 h2 h3 =>by simp only [h1,h2,h3]; omega)
 have s8:=s7.imp (an2 (by rw [← hv]))
 have s9:=(s8.perm (List.Perm.swap ..)).imp (an2 (by rw [htl]))
 have e2:vss.flatten.take (i.toNat*K.sz c)++(vs++(vss.flatten.drop (i.toNat*K.sz c+K.sz c)++spare))=(vss.set i.toNat vs).flatten++spare:=by
  have:=ajB (o:=0) (us:=vs) hvz hvs (by omega)
  have e3:(vss[i.toNat]).take 0++vs++(vss[i.toNat]).drop (0+vs.length)=vs:=by
   have:=hvz _ (List.getElem_mem hlt)
   rw [List.drop_eq_nil_of_le (by omega)]; simp
  rw [e3,Nat.add_zero,← hv] at this
  rw [this]; simp only [List.append_assoc]
 rw [e2] at s9
 have s10:Sat B w ((pts b o ((vss.set i.toNat vs).flatten++spare)::abX K (pcS K) c (xs.set i.toNat x) (vss.set i.toNat vs))++(dH K ρ H1++X)):=s9.perm (List.Perm.cons _ ((hperm x vs).symm.append_right _))
 have hz2:∀ v∈vss.set i.toNat vs,v.length=K.sz c:=fun v hv' =>by
  rcases List.mem_or_eq_of_mem_set hv' with e | e
  ·exact hvz v e
  ·rw [e,← hv]
 have s11:Sat B w (ac6 K ρ j (.row c (xs.set i.toNat x))::(dH K ρ H1++X)):=by
  refine afM (fun k hk =>?_) s10
  obtain ⟨q1,q2,qa,qe,g1,g2⟩:=hk
  refine ⟨by rw [List.length_set]; exact hn,ac8.2 ⟨vss.set i.toNat vs,q1,q2,qa,qe,⟨?_,?_,hc2,.inr ⟨b,o,spare,hA,?_,g1⟩⟩,g2⟩⟩
  ·rw [aeG hz2,List.length_set,List.length_set,hvl]
  ·rw [List.length_set]; exact hc1
  ·rw [List.length_set]; exact hc3
 refine abw s11 fun k =>?_
 show axH ρ e j (K.sz c) i
 exact ⟨⟨hi.1,by rw [hn]; exact hi.2⟩,b,o,hA,hq⟩
end
section
variable (K:KT)
def roF:Fl K.T K.M→Bool
 | .ro .. =>true
 | _ =>false
def aMC:Fl K.T K.M→Bool
 | .row .. =>true
 | _ =>false
def aEa (H:KT.H K) (id:Nat):Option (KT.H K) :=
 match get H id with
 | some (.elt j i sz) =>match get H j with
  | some (.row c xs) =>match Nat.beq sz (K.sz c) && ((K.vw c (K.df c)).any (aMC K) || (Nat.ble 2 sz && (K.vw c (K.df c)).any (roF K))) with
   | true =>some ((id,.cells ((K.vw c (atL (K.df c) xs i)).map .f))::(j,.gap c xs i id)::del (del H j) id)
   | false =>none
  | _ =>none
 | _ =>none
def ay5 (H:KT.H K) (j:Nat):Option (KT.H K) :=
 match get H j with
 | some (.gap c xs i e) =>match get (del H j) e with
  | some (.cells fs) =>match awf K (asm K) (del (del H j) e) (K.vw c (K.df c)) fs with
   | some (l,H1) =>match K.bk c l with
    | some x =>some ((e,.elt j i (K.sz c))::(j,.row c (xs.set i.toNat x))::H1)
    | none =>none
   | none =>none
  | _ =>none
 | _ =>none
def aH3:KT.H K→List Nat
 | [] =>[]
 | p::H =>match p.2 with
  | .gap .. =>p.1::aH3 H
  | _ =>aH3 H
def ast:List Nat→KT.H K→KT.H K
 | [],H =>H
 | j::l,H =>match ay5 K H j with
  | some H' =>ast l H'
  | none =>ast l H
def aLn (H:KT.H K):KT.H K:=ast K (aH3 K H) H
def aEE:KT.H K→List Nat
 | [] =>[]
 | p::H =>match p.2 with
  | .gap c .. =>match (K.ls 3 c).isSome || (K.ls 1 c).isSome with
   | true =>aEE H
   | false =>p.1::aEE H
  | _ =>aEE H
def aMz (H:KT.H K):KT.H K:=ast K (aEE K H) H
def aBl (H:KT.H K) (v:V):Option (KT.H K) :=
 match v with
 | .ptr id _ =>match aEa K H id with
  | some H1 =>some H1
  | none =>match get H id with
   | some (.elt j _ _) =>match ay5 K H j with
    | some H1 =>aEa K H1 id
    | none =>none
   | _ =>none
 | _ =>none
end
section
variable {K:KT} {B:Nat} {w:World} {ρ:Env} {X:List aad}
theorem ayw {H H':KT.H K} {id:Nat} (h:aEa K H id=some H') (s:Sat B w (dH K ρ H++X)):Sat B w (dH K ρ H'++X):=by
 unfold aEa at h
 split at h
 ·rename_i j i sz hel
  split at h
  ·rename_i c xs hg
   split at h
   ·rename_i hB
    cases h
    simp only [Bool.and_eq_true] at hB
    obtain rfl:=Nat.eq_of_beq_eq_true hB.1
    have s1:=aEF hel hg s
    have s2:Sat B w (dH K ρ (del H j)++(ac6 K ρ id (.cells ((K.vw c (atL (K.df c) xs i)).map .f))::ac6 K ρ j (.gap c xs i id)::X)):=s1.perm (aap fun f g h1 h2 h3 =>by simp only [h1,h2,h3]; omega)
    have s3:=s2.imp (atT (id:=id))
    exact s3.perm (aap fun f g h1 h2 h3 =>by simp only [dH,List.map_cons,h1,h2,h3]; omega)
   ·cases h
  ·cases h
 ·cases h
theorem avO {H H':KT.H K} {j:Nat} (h:ay5 K H j=some H') (s:Sat B w (dH K ρ H++X)):Sat B w (dH K ρ H'++X):=by
 unfold ay5 at h
 split at h
 ·rename_i c xs i e hg
  split at h
  ·rename_i fs he
   split at h
   ·rename_i l H1 hl
    split at h
    ·rename_i x hx
     cases h
     exact aBM hg he hl hx s
    ·cases h
   ·cases h
  ·cases h
 ·cases h
theorem anw:∀ {l:List Nat} {H:KT.H K},Sat B w (dH K ρ H++X)→Sat B w (dH K ρ (ast K l H)++X)
 | [],_,s =>s
 | j::l,H,s =>by
  unfold ast
  split
  ·rename_i H' h; exact anw (avO h s)
  ·exact anw s
theorem atl {H H':KT.H K} {v:V} (h:aBl K H v=some H') (s:Sat B w (dH K ρ H++X)):Sat B w (dH K ρ H'++X):=by
 unfold aBl at h
 split at h
 ·split at h
  ·rename_i h1; cases h; exact ayw h1 s
  ·split at h
   ·split at h
    ·rename_i h1; exact ayw h (avO h1 s)
    ·cases h
   ·cases h
 ·cases h
theorem at0 {H:KT.H K} (s:Sat B w (dH K ρ H++X)):Sat B w (dH K ρ (aLn K H)++X):=anw s
theorem aIt {H:KT.H K} (s:Sat B w (dH K ρ H++X)):Sat B w (dH K ρ (aMz K H)++X):=anw s
end
section
variable (K:KT)
def rd1 (H:KT.H K) (id o:Nat):Option V:=match opn K 0 H id o with
 | some (false,_,v) =>some v
 | _ =>none
def rdN (H:KT.H K) (id:Nat):Nat→Nat→Option (List V)
 | 0,_ =>some []
 | k+1,o =>match rd1 K H id o with
  | some v =>match rdN H id k (o+1) with
   | some l =>some (v::l)
   | none =>none
  | none =>none
def ldV (P:Program) (H:KT.H K) (T:TypeId) (x:V):Option V :=
 match x with
 | .ptr id o =>match agk P T with
  | some none =>rd1 K H id o
  | some (some k) =>(rdN K H id k o).map .agg
  | none =>none
 | _ =>none
end
section
variable {K:KT} {P:Program} {B:Nat}
theorem aya {H:KT.H K} {id o:Nat} {v:V} (h:rd1 K H id o=some v) {ρ:Env} {w:World} {X:List aad} (s:Sat B w (dH K ρ H++X)):w.cell? ⟨(ρ.p id).1,(ρ.p id).2+o,none⟩=some (aay ρ v):=by
 unfold rd1 at h
 split at h
 ·rename_i h1
  cases h
  obtain ⟨ρ',⟨_,he⟩,_,hc⟩:=avj (X:=fun _ =>X) h1 (fun e =>by cases e) s
  obtain rfl:=he rfl
  exact hc
 ·cases h
theorem ax9 {H:KT.H K} {id:Nat}:∀ {k o:Nat} {l:List V},rdN K H id k o=some l→∀ {ρ:Env} {w:World} {X:List aad},Sat B w (dH K ρ H++X)→l.length=k∧∀ j v,(aah ρ l)[j]?=some v→w.cell? ⟨(ρ.p id).1,(ρ.p id).2+o+j,none⟩=some v
 | 0,o,l,h,ρ,w,X,s =>by cases h; exact ⟨rfl,fun j v hj =>by simp [aah] at hj⟩
 | k+1,o,l,h,ρ,w,X,s =>by
  unfold rdN at h
  split at h
  ·rename_i v h1
   split at h
   ·rename_i l' h2
    cases h
    obtain ⟨hl,hc⟩:=ax9 h2 s
    refine ⟨by simp [hl],fun j u hj =>?_⟩
    cases j with
    | zero =>
     simp only [aah,List.getElem?_cons_zero,Option.some.injEq] at hj
     rw [← hj]; exact aya h1 s
    | succ j =>
     simp only [aah,List.getElem?_cons_succ] at hj
     rw [← hc j u hj]; congr 2; omega
   ·cases h
  ·cases h
theorem aHQ {o:Oper} {H:KT.H K} {T:TypeId} {x:Operand} {u v:V} {R:aa6} {nt:Nat} (ho:o.op=.load T x) (hx:evO R x=some u) (h:ldV K P H T u=some v) {ρ:Env} {a:Act} {w:World} {X:List aad} (r:Regs nt a (dR ρ R)) (s:Sat B w (dH K ρ H++X)) :
  (execOp a.eval o).run P w=.ok (.value (aay ρ v)) w:=by
 obtain ⟨d,op,ty,ps,af,g⟩:=o
 simp only at ho
 subst ho
 have ex:=(aaO (ρ:=ρ) hx).eval r
 unfold ldV at h
 split at h
 ·rename_i id o'
  have fin:(Instr.loadAt T (.pointer (some ⟨(ρ.p id).1,(ρ.p id).2+o',none⟩))).run P w=.ok (aay ρ v) w→(execOp a.eval ⟨d,.load T x,ty,ps,af,g⟩).run P w=.ok (.value (aay ρ v)) w:=fun h6 =>by
   simp only [execOp,ex,aay]
   rw [aaa h6]; rfl
  split at h
  ·rename_i hT
   exact fin (akE hT (aya h s))
  ·rename_i k hT
   simp only [Option.map_eq_some_iff] at h
   obtain ⟨l,hl,rfl⟩:=h
   obtain ⟨h1,h2⟩:=ax9 hl s
   exact fin (ald hT (by rw [aaS]; simpa using h1) h2 rfl)
  ·cases h
 ·cases h
end
section
variable (K:KT)
def aIb (P:Program) (R:aa6) (n:Nat) (Z H:KT.H K) (T:TypeId) (x:V):Option (Nat×KT.H K×V) :=
 match x with
 | .ptr id o =>match agk P T with
  | some none =>match get (H++Z) id with
   | some (.elt j i sz) =>match get (H++Z) j with
    | some (.rr c xss) =>match Nat.beq sz 1 && Nat.beq o 0 && (Nat.ble (agm (H++Z)) n && Nat.ble (axO R) n) with
     | true =>some (n+1,(n,.ro c (atL [] xss i))::H,.sl n)
     | false =>none
    | _ =>none
   | _ =>none
  | _ =>none
 | _ =>none
end
section
variable {K:KT} {P:Program} {nt n B:Nat} {W:World} {R:aa6} {Z H:KT.H K} {nx:Nat→KT.H K→V→Prop}
theorem arq {ρ:Env} (H H':KT.H K):dH K ρ (H++H')=dH K ρ H++dH K ρ H':=by simp [dH]
theorem aGZ {ρ:Env} {j c:Nat} {xss:List (List (K.T c))} (hg:get H j=some (.rr c xss)) {X:List aad}:Ent (dH K ρ H++X) (ac6 K ρ j (.rr c xss)::(dH K ρ H++X)):=fun h0 t0 =>by
 obtain ⟨j1,j2,a1,e1,⟨m1,ps,m2⟩,mL⟩:=aaV (ρ:=ρ) hg h0 t0
 obtain ⟨p,hp,hΦ⟩:=m2
 have hpp:∀ b o x,p b o=some x→(∃ v,x=.look v)∧h0 b o=some x:=fun b o x hx =>⟨(hp b o x hx).1,by rw [e1]; unfold ad3; rw [(hp b o x hx).2]⟩
 refine ⟨p,h0,fun b o =>?_,?_,⟨m1,ps,p,fun b o x hx =>⟨(hpp b o x hx).1,hx⟩,hΦ⟩,t0⟩
 ·cases hpb:p b o with
  | none =>exact .inl rfl
  | some x =>
   obtain ⟨⟨v,rfl⟩,h2⟩:=hpp b o x hpb
   exact .inr (.inr ⟨v,rfl,h2⟩)
 ·funext b o
  unfold ad3
  cases hpb:p b o with
  | none =>rfl
  | some x =>exact (hpp b o x hpb).2
theorem azp {o:Oper} {T:TypeId} {x:Operand} {u v:V} {n':Nat} {H':KT.H K} (ho:o.op=.load T x) (hx:evO R x=some u) (h:aIb K P R n Z H T u=some (n',H',v)) (hn:nx n' H' v):afz K P nt B W o R n Z H nx:=fun F ρ a w s =>by
 obtain ⟨d,op,ty,ps,af,g⟩:=o
 simp only at ho
 subst ho
 have ex:=(aaO (ρ:=ρ) hx).eval s.regs
 unfold aIb at h
 split at h
 ·rename_i id o'
  split at h
  ·rename_i hT
   split at h
   ·rename_i j i sz hgi
    split at h
    ·rename_i c xss hgj
     split at h
     ·rename_i hB
      cases h
      simp only [Bool.and_eq_true] at hB
      obtain ⟨⟨b1,b2⟩,b3,b4⟩:=hB
      have hn1:agm (H++Z)≤n:=Nat.le_of_ble_eq_true b3
      have hji:=aji hgi
      have hjn:j<n:=Nat.lt_of_lt_of_le (aji hgj).1 hn1
      have hin:id<n:=Nat.lt_of_lt_of_le hji.1 hn1
      have s0:Sat B w (dH K ρ (H++Z)++[F]):=by rw [arq,List.append_assoc]; exact s.sat
      have he:=avK s0 hgi
      have s1:=s0.imp (aGZ (ρ:=ρ) hgj)
      have s2:Sat B w (dH K ρ [(id,.elt j i sz),(j,.rr c xss)]++(dH K ρ (H++Z)++[F])):=abw s1 fun k =>he
      have hne:Nat.beq id j=false:=by
       cases hq:Nat.beq id j with
       | false =>rfl
       | true =>
        have:=Nat.eq_of_beq_eq_true hq
        subst this
        rw [hgi] at hgj; cases hgj
      have hop:opn K n [(id,.elt j i sz),(j,.rr c xss)] id o'=some (true,(n,.ro c (atL [] xss i))::(j,.rr c xss)::del [(id,.elt j i sz),(j,.rr c xss)] j,.sl n):=by
       have g1:get [(id,(Ch.elt j i sz:Ch K.T K.M)),(j,.rr c xss)] id=some (.elt j i sz):=by unfold get; rw [Nat.beq_refl]
       have g2:get [(id,(Ch.elt j i sz:Ch K.T K.M)),(j,.rr c xss)] j=some (.rr c xss):=by unfold get; rw [hne]; simp only [get]; rw [Nat.beq_refl]
       have g3:Nat.ble (agm [(id,(Ch.elt j i sz:Ch K.T K.M)),(j,.rr c xss)]) n=true:=by
        refine Nat.ble_eq_true_of_le ?_
        refine arM ⟨arM ⟨hin,?_⟩,arM ⟨arM ⟨hjn,Nat.zero_le _⟩,Nat.zero_le _⟩⟩
        exact hjn
       unfold opn
       simp only [g1,g2,b1,b2,g3,Bool.and_self]
      obtain ⟨ρ',⟨ha,_⟩,s3,hc⟩:=avj (X:=fun ρ =>dH K ρ (H++Z)++[F]) hop (fun _ ρ' ha =>by rw [acH ha _ hn1]) s2
      have s4:Sat B w (dS K ρ' Z ((n,.ro c (atL [] xss i))::H) F):=by
       have e:dS K ρ' Z ((n,.ro c (atL [] xss i))::H) F=ac6 K ρ' n (.ro c (atL [] xss i))::(dH K ρ' (H++Z)++[F]):=by
        rw [arq,List.append_assoc]; rfl
       rw [e]
       refine s3.imp fun k hk =>?_
       exact abp (fun q hq =>ahF (L:=dH K ρ' ((j,.rr c xss)::del [(id,.elt j i sz),(j,.rr c xss)] j)) hq) hk
      have:(execOp a.eval ⟨d,.load T x,ty,ps,af,g⟩).run P w=.ok (.value (aay ρ' (.sl n))) w:=by
       simp only [execOp,ex,aay]
       rw [aaa (akE hT hc)]; rfl
      rw [this]
      exact ⟨⟨ρ',n+1,(n,.ro c (atL [] xss i))::H,.sl n⟩,rfl,⟨ha,Nat.le_succ _,(aco ha _ (Nat.le_of_ble_eq_true b4)).symm,hn⟩,s.below,s.lo,s4⟩
     ·cases h
    ·cases h
   ·cases h
  ·cases h
 ·cases h
end
def agW:Nat:=1000000000
def mI (name : String) : Option Nat := if name = "Step" then some 0 else if name = "Result" then some 1 else if name = "Copy" then some 2 else none
def mN:Nat→String
 | 0 =>"Step"
 | 1 =>"Result"
 | _ =>"Copy"
theorem aLM {name:String} {i:Nat} (h:mI name=some i):mN i=name:=by
 unfold mI at h
 split at h
 ·cases h; rename_i e; exact e.symm
 ·split at h
  ·cases h; rename_i e; exact e.symm
  ·split at h
   ·cases h; rename_i e; exact e.symm
   ·cases h
def afA (P:Program) (fid:FuncId) (args:Array Value) (w:World) (Q:Ending→World→Prop):Prop :=
 match Nat.blt fid agW with
 | true =>Calls P fid args w Q
 | false =>∃ (T:TypeId) (u:Value) (rest:Array Value) (f:FuncId),args=#[.iface T u]++rest∧(∀ w',(callMethod (.iface T u) (mN (fid-agW)) rest).run P w'=.ok (.enter f (#[u]++rest)) w')∧Calls P f (#[u]++rest) w Q
theorem adG {P:Program} {fid:FuncId} {args:Array Value} {w:World} {Q:Ending→World→Prop} (h:Nat.blt fid agW=true):afA P fid args w Q=Calls P fid args w Q:=by
 unfold afA; rw [h]
theorem arz {P:Program} {i:Nat} {args:Array Value} {w:World} {Q:Ending→World→Prop}:afA P (agW+i) args w Q=∃ (T:TypeId) (u:Value) (rest:Array Value) (f:FuncId),args=#[.iface T u]++rest∧(∀ w',(callMethod (.iface T u) (mN i) rest).run P w'=.ok (.enter f (#[u]++rest)) w')∧Calls P f (#[u]++rest) w Q:=by
 have h:Nat.blt (agW+i) agW=false:=by
  cases hb:Nat.blt (agW+i) agW with
  | false =>rfl
  | true =>have:=Nat.le_of_ble_eq_true hb; omega
 unfold afA
 rw [h,show agW+i-agW=i by omega]
theorem afA.mono {P:Program} {fid:FuncId} {args:Array Value} {w:World} {Q Q':Ending→World→Prop} (h:afA P fid args w Q) (hq:∀ e w',Q e w'→Q' e w'):afA P fid args w Q':=by
 unfold afA at h ⊢
 split at h
 ·exact Calls.mono h hq
 ·obtain ⟨T,u,rest,f,e,h1,h2⟩:=h
  exact ⟨T,u,rest,f,e,h1,Calls.mono h2 hq⟩
def aHK (P:Program) (T:TypeId) (name:String):Option FuncId :=
 match P.info? T with
 | some ti =>match ti.methods.find? (fun m =>m.name == name) with
  | some m =>match m.path.toList with
   | [] =>match m.func with
    | some (f,true) =>match P.underlying T with
     | some (.pointer _) =>some f
     | _ =>none
    | _ =>none
   | _ =>none
  | none =>none
 | none =>none
theorem aEv {P:Program} {T:TypeId} {name:String} {f:FuncId} (h:aHK P T name=some f) (hc:azO P f=true) (u:Value) (vs:Array Value) (w:World) :
  (callMethod (.iface T u) name vs).run P w=.ok (.enter f (#[u]++vs)) w:=by
 unfold aHK at h
 split at h
 ·rename_i ti hti
  split at h
  ·rename_i m hm
   split at h
   ·rename_i hp
    split at h
    ·rename_i g hg
     split at h
     ·rename_i el hu
      cases h
      have h1:(typeInfo T).run P w=.ok ti w:=by
       unfold typeInfo
       rw [aaa (a:=P) (w':=w) rfl,hti]; rfl
      have h2:(underlying T).run P w=.ok (.pointer el) w:=by
       unfold underlying
       rw [aaa (a:=P) (w':=w) rfl,hu]; rfl
      have h3:∀ s,(receiverAt T (.val u) true s).run P w=.ok u w:=fun s =>by
       unfold receiverAt
       rw [aaa h2]; rfl
      have h4:∀ k,(method (k+1) T u name).run P w=.ok (f,u) w:=fun k =>by
       unfold method
       rw [aaa h1]
       simp only [hm,hp]
       rw [aaa (a:=(T,Place.val u)) (w':=w) rfl]
       simp only [hg]
       rw [aaa (h3 _)]; rfl
      unfold callMethod
      rw [aaa (a:=P) (w':=w) rfl]
      rw [show P.types.size+Made.depth=(P.types.size+Made.depth-1)+1 from (Nat.succ_pred_eq_of_pos (Nat.lt_of_lt_of_le (by decide) (Nat.le_add_left _ _))).symm]
      rw [aaa (h4 _)]
      exact aza hc _
     ·cases h
    ·cases h
   ·cases h
  ·cases h
 ·cases h
theorem avm {P:Program} {a:Act} {w:World} {x:Operand} {name:String} {f:FuncId} {xs:Array Operand} {ts:Array TypeId} {vs:List Value} {T:TypeId} {u:Value} {d:Option Tmp} {ty:TypeId} {ps:String} {af:Array Edge} {g:Option (Nat×Bool)} (hx:a.eval x=.iface T u) (hxs:xs.toList.map a.eval=vs) (hc:(callMethod (.iface T u) name vs.toArray).run P w=.ok (.enter f (#[u]++vs.toArray)) w) :
  (execOp a.eval ⟨d,.call ⟨.invoke x name,xs,ts⟩,ty,ps,af,g⟩).run P w=.ok (.enter f (#[u]++vs.toArray)) w:=by
 have e:xs.map a.eval=vs.toArray:=by apply Array.ext'; rw [Array.toList_map,hxs]
 simp only [execOp,resolve,e,hx]
 rw [aaa (a:=({ target:=.fn (.method name) #[],args:=#[.iface T u]++vs.toArray }:Deferred)) (w':=w) rfl]
 simp only [invoke]
 have e0:(#[Value.iface T u]++vs.toArray)[0]?=some (.iface T u):=by simp
 have e1:(#[Value.iface T u]++vs.toArray).extract 1 (#[Value.iface T u]++vs.toArray).size=vs.toArray:=by apply Array.ext'; simp
 rw [e0,e1]
 exact hc
def atK {α:Type} (j:Int) (f:Nat→Option α):Nat→Option α
 | 0 =>none
 | m+1 =>if j=((m:Nat):Int) then f m else atK j f m
theorem ajA {α:Type} {j:Int} {f:Nat→Option α} {out:α}:∀ {m:Nat},atK j f m=some out→∃ i,i<m∧j=((i:Nat):Int)∧f i=some out
 | 0,h =>by cases h
 | m+1,h =>by
  unfold atK at h
  split at h
  ·rename_i e; exact ⟨m,Nat.lt_succ_self m,e,h⟩
  ·obtain ⟨i,h1,h2⟩:=ajA h
   exact ⟨i,Nat.lt_succ_of_lt h1,h2⟩
def aF1 (P:Program) (R:aa6) (T:TypeId) (x y:Operand):Option ((Nat×Nat)×(Nat×Int×Nat)×IntKind) :=
 match evO R x with
 | some (.ptr id o) =>match P.underlying T with
  | some (.array len elem) =>match evO R y with
   | some u =>match amk u with
    | some (k,j,_) =>match P.info? elem with
     | some inf =>some ((id,o),(len,j,inf.size),k)
     | none =>none
    | none =>none
   | none =>none
  | _ =>none
 | _ =>none
theorem axe {P:Program} {ρ:Env} {R:aa6} {T:TypeId} {x y:Operand} {id o len sz:Nat} {j:Int} {kk:IntKind} (h:aF1 P R T x y=some ((id,o),(len,j,sz),kk)) {nt:Nat} {a:Act} (r:Regs nt a (dR ρ R)) {i:Nat} (hi:i<len) (hj:j=((i:Nat):Int))
  {d:Option Tmp} {ty:TypeId} {ps:String} {af:Array Edge} {g:Option (Nat×Bool)} (w:World):(execOp a.eval ⟨d,.indexAddr T x y,ty,ps,af,g⟩).run P w=.ok (.value (aay ρ (.ptr id (o+i*sz)))) w:=by
 unfold aF1 at h
 split at h
 ·rename_i id' o' hx
  have ex:=(aaO (ρ:=ρ) hx).eval r
  split at h
  ·rename_i len' elem hu
   split at h
   ·rename_i u hy
    split at h
    ·rename_i k j' l hi'
     have ey:=(acy (ρ:=ρ) hy hi').eval r
     split at h
     ·rename_i inf hinf
      cases h
      subst hj
      have h1:(0:Int)≤((i:Nat):Int)∧((i:Nat):Int)<(len:Int):=by omega
      have h2:(Instr.indexAt T (.pointer (some ⟨(ρ.p id).1,(ρ.p id).2+o,none⟩)) (.int kk ((i:Nat):Int))).run P w=.ok (.pointer (some ⟨(ρ.p id).1,(ρ.p id).2+(o+i*inf.size),none⟩)) w:=by
       simp [Instr.indexAt,asIntOf,acw hu,sizeOf,acn hinf,h1,hi,Instr.sureAddr,ael,Nat.add_assoc]
      simp only [execOp,ex,ey,aay]
      rw [aaa h2]; rfl
     ·cases h
    ·cases h
   ·cases h
  ·cases h
 ·cases h
def aL4 (P:Program) (R:aa6) (T:TypeId) (x y:Operand):Option ((Nat×Nat)×(Nat×Int×Nat)×Int) :=
 match evO R x with
 | some (.vs id o k c) =>match ahn P T with
  | some sz =>match evO R y with
   | some u =>match amk u with
    | some (_,j,_) =>some ((id,o),(c,j,sz),k)
    | none =>none
   | none =>none
  | none =>none
 | _ =>none
theorem aIc {P:Program} {ρ:Env} {R:aa6} {T:TypeId} {x y:Operand} {id o len sz:Nat} {j kb:Int} (h:aL4 P R T x y=some ((id,o),(len,j,sz),kb)) (hb:j<kb) {nt:Nat} {a:Act} (r:Regs nt a (dR ρ R)) {i:Nat} (hj:j=((i:Nat):Int))
  {d:Option Tmp} {ty:TypeId} {ps:String} {af:Array Edge} {g:Option (Nat×Bool)} (w:World):(execOp a.eval ⟨d,.indexAddr T x y,ty,ps,af,g⟩).run P w=.ok (.value (aay ρ (.ptr id (o+i*sz)))) w:=by
 unfold aL4 at h
 split at h
 ·rename_i id' o' k' c' hx
  have ex:=aaO (ρ:=ρ) hx
  split at h
  ·rename_i sz' hsz
   split at h
   ·rename_i u hy
    split at h
    ·rename_i kk j' l hi
     have ey:=acy (ρ:=ρ) hy hi
     cases h
     subst hj
     have:=(ajo (P:=P) (n:=nt) (d:=d) (ty:=ty) (ps:=ps) (af:=af) (g:=g) (i:=i) (o':=(ρ.p id).2+(o+i*sz)) ex ey rfl (by omega) hsz (by omega)) a w r
     simpa only [aay] using this
    ·cases h
   ·cases h
  ·cases h
 ·cases h
def aJp (R:aa6) (y:Operand) (k:IntKind) (i:Nat):aa6:=match y with
 | .tmp t =>match get R t with
  | some (.i _ _) =>(t,.l k ((i:Nat):Int))::del R t
  | _ =>R
 | _ =>R
theorem atD {α:Type} {t:Nat} {v:α} {C:List (Nat×α)}:∀ {R:List (Nat×α)},get R t=some v→get (R++C) t=some v
 | [],h =>by cases h
 | (t',v')::R,h =>by
  rw [List.cons_append]
  unfold get at h ⊢
  cases hb:Nat.beq t' t with
  | true =>rw [hb] at h; exact h
  | false =>rw [hb] at h; exact atD h
theorem ayV {P:Program} {ρ:Env} {R:aa6} {T:TypeId} {x y:Operand} {q:Nat×Nat} {len sz:Nat} {j:Int} {kk:IntKind} (h:aF1 P R T x y=some (q,(len,j,sz),kk)):∃ u,evO R y=some u∧aay ρ u=.int kk j:=by
 unfold aF1 at h
 split at h
 ·split at h
  ·split at h
   ·rename_i u hy
    split at h
    ·rename_i hi
     split at h
     ·cases h; exact ⟨u,hy,alg hi⟩
     ·cases h
    ·cases h
   ·cases h
  ·cases h
 ·cases h
theorem awz {ρ:Env} {R C:aa6} {y:Operand} {k:IntKind} {i nt:Nat} {u:V} {a:Act} (hu:evO (R++C) y=some u) (hd:aay ρ u=.int k ((i:Nat):Int)) (r:Regs nt a (dR ρ (R++C))):Regs nt a (dR ρ (aJp R y k i++C)):=by
 unfold aJp
 split
 ·rename_i t
  split
  ·rename_i k' j' hg
   have hg':get (R++C) t=some (.i k' j'):=atD hg
   have e:u=.i k' j':=by
    have:get (R++C) t=some u:=hu
    rw [hg'] at this; exact (Option.some.inj this).symm
   refine ⟨r.size,r.defers,fun p hp =>?_⟩
   obtain ⟨q,hq,rfl⟩:=List.mem_map.1 hp
   rcases List.mem_append.1 hq with h1 | h1
   ·rcases List.mem_cons.1 h1 with e1 | e1
    ·subst e1
     have:=r.has _ (alO (ρ:=ρ) hg')
     rw [← e,hd] at this
     exact this
    ·exact r.has _ (List.mem_map.2 ⟨q,List.mem_append_left _ (ajE e1).1,rfl⟩)
   ·exact r.has _ (List.mem_map.2 ⟨q,List.mem_append_right _ h1,rfl⟩)
  ·exact r
 ·exact r
abbrev amj (K:KT):=(α:Type)→FuncId→List V→Nat→KT.H K→KT.H K→(Nat→KT.H K→V→Option α)→Option α
def alR (K:KT) (P:Program) (B:Nat) (W:World) (call:amj K):Prop :=
 ∀ (α:Type) fid vs n Z H (k:Nat→KT.H K→V→Option α) out,call α fid vs n Z H k=some out→ajh vs≤n→agm Z≤n→agm H≤n→∀ F ρ w,Cls B W (dS K ρ Z H F) w →
  afA P fid (aah ρ vs).toArray w fun e w' =>∃ x:Nx K,(aaB n ρ x.ρ∧n≤x.n∧k x.n x.H x.v=some out)∧e=.returned (aay x.ρ x.v)∧Cls B W (dS K x.ρ Z x.H F) w'
section
variable (K:KT) (P:Program) (call:amj K) {α:Type}
def stp (o:Oper) (R:aa6) (n:Nat) (Z H:KT.H K) (k:Nat→KT.H K→V→Option α):Option α :=
  match evX K P R n Z H o.op with
  | some (gs,n',H',v) =>gds gs (k n' H' v)
  | none =>match o.op with
    | .load T x =>match evO R x with
      | some u =>match ldV K P (H++Z) T u with
        | some v =>k n H v
        | none =>match aBl K H u with
          | some H1 =>match aLh K P R n Z H1 T u with
            | some (n',H',v) =>k n' H' v
            | none =>none
          | none =>match aLh K P R n Z H T u with
            | some (n',H',v) =>k n' H' v
            | none =>match aIb K P R n Z H T u with
              | some (n',H',v) =>k n' H' v
              | none =>none
      | none =>none
    | .store T x y =>match evO R x with
      | some u =>match evO R y with
        | some v =>match aLg K P H T u v with
          | some H' =>k n H' (.c undef)
          | none =>match aH7 K P H T u v with
            | some H' =>k n H' (.c undef)
            | none =>match aBl K H u with
              | some H1 =>match aLg K P H1 T u v with
                | some H' =>k n H' (.c undef)
                | none =>none
              | none =>none
        | none =>none
      | none =>none
    | .alloc T =>match awg P T with
      | some vs =>match aIF K R n Z H vs with
        | some (n',H',v) =>k n' H' v
        | none =>none
      | none =>none
    | .indexAddr T x y =>match aF1 P R T x y with
      | some (q,(len,j,sz),_) =>atK j (fun i =>k n H (.ptr q.1 (q.2+i*sz))) len
      | none =>match aL4 P R T x y with
        | some (q,(len,j,sz),kb) =>gds [⟨j<kb,inferInstance⟩] (atK j (fun i =>k n H (.ptr q.1 (q.2+i*sz))) len)
        | none =>match aIM K P R (H++Z) T x y with
          | some (q,(len,j,sz),_) =>atK j (fun i =>k n H (.ptr q.1 (q.2+i*sz))) len
          | none =>none
    | .box _ x =>match evO R x with
      | some u =>match (aaG u).all (scV H) with
        | true =>match aIF K R n Z H (aaG u) with
          | some (n',H',v) =>k n' H' v
          | none =>none
        | false =>none
      | none =>none
    | .makeSlice T x y =>match evO R x with
      | some u =>match evO R y with
        | some v =>match aL3 K P R n Z H T u v with
          | some (gs,n',H',r) =>gds gs (k n' H' r)
          | none =>none
        | none =>none
      | none =>none
    | .buildSlice T m parts =>match aL6 K P R n Z H T m parts.toList with
     | some (n',H',v) =>k n' H' v
     | none =>match aL7 K P R n Z H T m parts.toList with
      | some (n',H',v) =>k n' H' v
      | none =>match aL9 K P R n Z H T m parts.toList with
        | some (n',H',v) =>k n' H' v
        | none =>none
    | .call c =>match c.callee with
      | .builtin .append =>match c.args.toList with
        | [x,y] =>match c.argTypes.toList with
          | [T,T'] =>match evO R x with
            | some u =>match evO R y with
              | some v =>match aMe K P R n Z H T T' u v with
                | some (gs,n',H',r) =>gds gs (k n' H' r)
                | none =>match aMd K P R n Z H T T' u v with
                  | some (gs,n',H',r) =>gds gs (k n' H' r)
                  | none =>match aMc K P R n Z H T T' u v with
                    | some (gs,n',H',r) =>gds gs (k n' H' r)
                    | none =>match aMb K P R n Z H T T' u v with
                      | some (n',H',r) =>k n' H' r
                      | none =>none
              | none =>none
            | none =>none
          | _ =>none
        | _ =>none
      | .value f =>match evO R f with
        | some (.fn fid caps) =>match aH9 R c.args.toList with
          | some vs =>match azO P fid && acG K R n Z H && Nat.ble (ajh (vs++caps)) n && Nat.blt fid agW with
            | true =>call α fid (vs++caps) n Z H k
            | false =>none
          | none =>none
        | _ =>none
      | .invoke x name =>match mI name with
        | some i =>match evO R x with
          | some (.mc id) =>match aH9 R c.args.toList with
            | some vs =>match acG K R n Z H && Nat.ble (ajh (.mc id::vs)) n with
              | true =>call α (agW+i) (.mc id::vs) n Z H k
              | false =>none
            | none =>none
          | some (.ifc T u) =>match aHK P T name with
            | some f =>match aH9 R c.args.toList with
              | some vs =>match azO P f && acG K R n Z H && Nat.ble (ajh (u::vs)) n && Nat.blt f agW with
                | true =>call α f (u::vs) n Z H k
                | false =>none
              | none =>none
            | none =>none
          | _ =>none
        | none =>none
      | _ =>none
    | _ =>none
end
section
variable {K:KT} {P:Program} {call:amj K} {α:Type} {nt n B:Nat} {W:World} {R:aa6} {Z H:KT.H K}
theorem aKM {ρ:Env} (H H':KT.H K):dH K ρ (H++H')=dH K ρ H++dH K ρ H':=by simp [dH]
theorem axR {o:Oper} {H1:KT.H K} {nx:Nat→KT.H K→V→Prop} (hT:∀ (ρ:Env) (w:World) (X:List aad),Sat B w (dH K ρ H++X)→Sat B w (dH K ρ H1++X)) (h:afz K P nt B W o R n Z H1 nx):afz K P nt B W o R n Z H nx :=
 fun F ρ a w s =>h F ρ a w ⟨s.regs,s.below,s.lo,hT ρ w _ s.sat⟩
theorem aFt (hc:alR K P B W call) {o:Oper} {k:Nat→KT.H K→V→Option α} {out:α} (h:stp K P call o R n Z H k=some out):afz K P nt B W o R n Z H (fun n' H' v =>k n' H' v=some out):=by
 unfold stp at h
 split at h
 ·rename_i gs n' H' v he
  obtain ⟨h1,h2⟩:=ano h
  intro F ρ a w s
  obtain ⟨ρ',⟨q1,q2,q3⟩,_,q4,q5⟩:=aF0 he h1 s.sat s.regs
  rw [q5 w]
  exact ⟨⟨ρ',n',H',v⟩,rfl,⟨q1,q2,q3,h2⟩,s.below,s.lo,q4 w s.sat⟩
 ·split at h
  ·rename_i T x ho
   split at h
   ·rename_i u hx
    split at h
    ·rename_i v he
     intro F ρ a w s
     have s1:Sat B w (dH K ρ (H++Z)++[F]):=by rw [aKM,List.append_assoc]; exact s.sat
     rw [aHQ ho hx he s.regs s1]
     exact ⟨⟨ρ,n,H,v⟩,rfl,⟨aaB.refl _ _,Nat.le_refl _,rfl,h⟩,s.cls⟩
    ·split at h
     ·rename_i hop
      split at h
      ·rename_i he
       exact axR (fun _ _ _ =>atl hop) (auG ho hx he h)
      ·cases h
     ·split at h
      ·rename_i he
       exact auG ho hx he h
      ·split at h
       ·rename_i he
        exact azp ho hx he h
       ·cases h
   ·cases h
  ·rename_i T x y ho
   split at h
   ·rename_i hx
    split at h
    ·rename_i hy
     split at h
     ·rename_i he; exact arV ho hx hy he h
     ·split at h
      ·rename_i he; exact awl ho hx hy he h
      ·split at h
       ·rename_i hop
        split at h
        ·rename_i he
         exact axR (fun _ _ _ =>atl hop) (arV ho hx hy he h)
        ·cases h
       ·cases h
    ·cases h
   ·cases h
  ·rename_i T ho
   split at h
   ·rename_i hz
    split at h
    ·rename_i he; exact azq ho hz he h
    ·cases h
   ·cases h
  ·rename_i T x y ho
   split at h
   ·rename_i q len j sz kk he
    obtain ⟨i,h1,h2,h3⟩:=ajA h
    obtain ⟨id,o'⟩:=q
    intro F ρ a w s
    obtain ⟨d,op,ty,ps,af,g⟩:=o
    simp only at ho
    subst ho
    rw [axe he s.regs h1 h2 w]
    exact ⟨⟨ρ,n,H,_⟩,rfl,⟨aaB.refl _ _,Nat.le_refl _,rfl,h3⟩,s.cls⟩
   ·split at h
    ·rename_i q len j sz kb he
     obtain ⟨hg,h⟩:=ano h
     have hb:j<kb:=hg _ (List.mem_singleton.2 rfl)
     obtain ⟨i,h1,h2,h3⟩:=ajA h
     obtain ⟨id,o'⟩:=q
     intro F ρ a w s
     obtain ⟨d,op,ty,ps,af,g⟩:=o
     simp only at ho
     subst ho
     rw [aIc he hb s.regs h2 w]
     exact ⟨⟨ρ,n,H,_⟩,rfl,⟨aaB.refl _ _,Nat.le_refl _,rfl,h3⟩,s.cls⟩
    ·split at h
     ·rename_i q len j sz kk he
      obtain ⟨i,h1,h2,h3⟩:=ajA h
      obtain ⟨id,o'⟩:=q
      intro F ρ a w s
      obtain ⟨d,op,ty,ps,af,g⟩:=o
      simp only at ho
      subst ho
      rw [aBU he (aeB s.sat) s.regs h1 h2 w]
      exact ⟨⟨ρ,n,H,_⟩,rfl,⟨aaB.refl _ _,Nat.le_refl _,rfl,h3⟩,s.cls⟩
     ·cases h
  ·rename_i T x ho
   split at h
   ·rename_i hx
    split at h
    ·rename_i hs
     split at h
     ·rename_i he; exact aDr ho hx hs he h
     ·cases h
    ·cases h
   ·cases h
  ·rename_i T x y ho
   split at h
   ·rename_i hx
    split at h
    ·rename_i hy
     split at h
     ·rename_i he
      obtain ⟨h1,h2⟩:=ano h
      exact aGq ho hx hy he h1 h2
     ·cases h
    ·cases h
   ·cases h
  ·rename_i T m parts ho
   split at h
   ·rename_i he; exact aGr ho he h
   ·split at h
    ·rename_i he; exact aGs ho he h
    ·split at h
     ·rename_i he; exact aGt ho he h
     ·cases h
  ·rename_i c ho
   split at h
   ·rename_i hf
    split at h
    ·rename_i x y hxs
     split at h
     ·rename_i T T' hts
      split at h
      ·rename_i hx
       split at h
       ·rename_i hy
        split at h
        ·rename_i he
         obtain ⟨h1,h2⟩:=ano h
         obtain ⟨callee,xs,ts⟩:=c
         simp only at hf hxs hts
         subst hf
         obtain rfl:xs=#[x,y]:=by apply Array.ext'; simpa using hxs
         obtain rfl:ts=#[T,T']:=by apply Array.ext'; simpa using hts
         exact aGx ho hx hy he h1 h2
        ·split at h
         ·rename_i he
          obtain ⟨h1,h2⟩:=ano h
          obtain ⟨callee,xs,ts⟩:=c
          simp only at hf hxs hts
          subst hf
          obtain rfl:xs=#[x,y]:=by apply Array.ext'; simpa using hxs
          obtain rfl:ts=#[T,T']:=by apply Array.ext'; simpa using hts
          exact aGw ho hx hy he h1 h2
         ·split at h
          ·rename_i he
           obtain ⟨h1,h2⟩:=ano h
           obtain ⟨callee,xs,ts⟩:=c
           simp only at hf hxs hts
           subst hf
           obtain rfl:xs=#[x,y]:=by apply Array.ext'; simpa using hxs
           obtain rfl:ts=#[T,T']:=by apply Array.ext'; simpa using hts
           exact aGv K.nc ho hx hy he h1 h2
          ·split at h
           ·rename_i he
            obtain ⟨callee,xs,ts⟩:=c
            simp only at hf hxs hts
            subst hf
            obtain rfl:xs=#[x,y]:=by apply Array.ext'; simpa using hxs
            obtain rfl:ts=#[T,T']:=by apply Array.ext'; simpa using hts
            exact aGu ho hx hy he h
           ·cases h
       ·cases h
      ·cases h
     ·cases h
    ·cases h
   ·rename_i f hf
    split at h
    ·rename_i fid caps hfn
     split at h
     ·rename_i vs hvs
      split at h
      ·rename_i hB
       intro F ρ a w s
       obtain ⟨d,op,ty,ps,af,g⟩:=o
       simp only at ho
       subst ho
       obtain ⟨callee,xs,ts⟩:=c
       simp only at hf hvs
       subst hf
       simp only [Bool.and_eq_true,acG] at hB
       obtain ⟨⟨⟨b1,⟨⟨b2,b3⟩,b4⟩⟩,b5⟩,b6⟩:=hB
       have ef:=(aaO (ρ:=ρ) hfn).eval s.regs
       have exs:=(arj (ρ:=ρ) hvs).eval s.regs
       simp only [aay] at ef
       rw [aHu (fst:=#[]) (cap:=(aah ρ caps).toArray) ef b1 exs]
       have e:(#[]++(aah ρ vs).toArray++(aah ρ caps).toArray:Array Value)=(aah ρ (vs++caps)).toArray:=by rw [arp]; simp
       rw [e]
       show Calls P fid _ w _
       have hcm:=hc _ _ _ _ _ _ _ _ h (Nat.le_of_ble_eq_true b5) (Nat.le_of_ble_eq_true b3) (Nat.le_of_ble_eq_true b4) F ρ w s.cls
       rw [adG b6] at hcm
       refine hcm.mono ?_
       rintro e w' ⟨x,⟨h1,h2,h3⟩,h4,h5⟩
       exact ⟨x,h4,⟨h1,h2,(aco h1 R (Nat.le_of_ble_eq_true b2)).symm,h3⟩,h5⟩
      ·cases h
     ·cases h
    ·cases h
   ·rename_i x name hf
    split at h
    ·rename_i i hmi
     split at h
     ·rename_i id hx
      split at h
      ·rename_i vs hvs
       split at h
       ·rename_i hB
        intro F ρ a w s
        obtain ⟨d,op,ty,ps,af,g⟩:=o
        simp only at ho
        subst ho
        obtain ⟨callee,xs,ts⟩:=c
        simp only at hf hvs
        subst hf
        simp only [Bool.and_eq_true,acG] at hB
        obtain ⟨⟨⟨b2,b3⟩,b4⟩,b5⟩:=hB
        have ex:=(aaO (ρ:=ρ) hx).eval s.regs
        have exs:=(arj (ρ:=ρ) hvs).eval s.regs
        have hcm:=hc _ _ _ _ _ _ _ _ h (Nat.le_of_ble_eq_true b5) (Nat.le_of_ble_eq_true b3) (Nat.le_of_ble_eq_true b4) F ρ w s.cls
        rw [arz] at hcm
        obtain ⟨T,u,rest,f,e,hrun,hcall⟩:=hcm
        have e':aay ρ (.mc id)::aah ρ vs=.iface T u::rest.toList:=by
         have:=congrArg Array.toList e
         simpa [aah] using this
        simp only [List.cons.injEq] at e'
        obtain ⟨e1,e2⟩:=e'
        have e3:rest=(aah ρ vs).toArray:=by apply Array.ext'; rw [← e2]
        subst e3
        rw [e1] at ex
        rw [avm ex exs (by rw [← aLM hmi]; exact hrun w)]
        show Calls P f _ w _
        refine hcall.mono ?_
        rintro e w' ⟨x,⟨h1,h2,h3⟩,h4,h5⟩
        exact ⟨x,h4,⟨h1,h2,(aco h1 R (Nat.le_of_ble_eq_true b2)).symm,h3⟩,h5⟩
       ·cases h
      ·cases h
     ·rename_i T u hx
      split at h
      ·rename_i f hml
       split at h
       ·rename_i vs hvs
        split at h
        ·rename_i hB
         intro F ρ a w s
         obtain ⟨d,op,ty,ps,af,g⟩:=o
         simp only at ho
         subst ho
         obtain ⟨callee,xs,ts⟩:=c
         simp only at hf hvs
         subst hf
         simp only [Bool.and_eq_true,acG] at hB
         obtain ⟨⟨⟨b1,⟨⟨b2,b3⟩,b4⟩⟩,b5⟩,b6⟩:=hB
         have ex:=(aaO (ρ:=ρ) hx).eval s.regs
         have exs:=(arj (ρ:=ρ) hvs).eval s.regs
         simp only [aay] at ex
         rw [avm ex exs (aEv hml b1 _ _ _)]
         have e:(#[aay ρ u]++(aah ρ vs).toArray:Array Value)=(aah ρ (u::vs)).toArray:=by simp [aah]
         rw [e]
         show Calls P f _ w _
         have hcm:=hc _ _ _ _ _ _ _ _ h (Nat.le_of_ble_eq_true b5) (Nat.le_of_ble_eq_true b3) (Nat.le_of_ble_eq_true b4) F ρ w s.cls
         rw [adG b6] at hcm
         refine hcm.mono ?_
         rintro e w' ⟨x,⟨h1,h2,h3⟩,h4,h5⟩
         exact ⟨x,h4,⟨h1,h2,(aco h1 R (Nat.le_of_ble_eq_true b2)).symm,h3⟩,h5⟩
        ·cases h
       ·cases h
      ·cases h
     ·cases h
    ·cases h
   ·cases h
  ·cases h
end
inductive Gs where
 | yes
 | no
 | p (d:Nat) (c:Bool) (P:Prop) (dec:Decidable P)
 | b (d:Nat) (c:Bool) (x:Bool)
def aMm:Bool→Bool→Bool
 | true,true =>true
 | false,false =>true
 | _,_ =>false
theorem axw {x y:Bool}:(x == y)=aMm x y:=by cases x<;>cases y<;>rfl
def aLQ:Value→Bool
 | .tuple cs =>Nat.beq cs.size 0
 | _ =>false
theorem aHV {v:Value} (h:aLQ v=true):v=undef:=by
 unfold aLQ at h
 split at h
 ·rename_i cs
  have:=Nat.eq_of_beq_eq_true h
  obtain rfl:=Array.eq_empty_of_size_eq_zero this
  rfl
 ·cases h
def gst (ops:Array Oper) (R:aa6):Option (Nat×Bool)→Option Gs
 | none =>some .yes
 | some (j,c) =>match ops[j]? with
  | some oj =>match oj.dst with
   | some d =>match get R d with
    | some (.t x) =>match aMm x c with
     | true =>some .yes
     | false =>some .no
    | some (.p P dec) =>some (.p d c P dec)
    | some (.b x) =>some (.b d c x)
    | some (.c v) =>match aLQ v with
     | true =>some .no
     | false =>none
    | _ =>none
   | none =>none
  | none =>none
theorem aH0 {ops:Array Oper} {R:aa6} {ρ:Env} {g:Option (Nat×Bool)} (h:gst ops R g=some .yes):akX ops (dR ρ R) g true:=by
 unfold gst at h
 split at h
 ·exact azm
 ·split at h
  ·rename_i hj
   split at h
   ·rename_i hd
    split at h
    ·rename_i x hg
     split at h
     ·rename_i hb
      exact anM hj hd (alO hg) (by rw [axw]; exact hb)
     ·cases h
    ·cases h
    ·cases h
    ·split at h<;>cases h
    ·cases h
   ·cases h
  ·cases h
theorem aKn {ops:Array Oper} {R:aa6} {ρ:Env} {g:Option (Nat×Bool)} (h:gst ops R g=some .no):akX ops (dR ρ R) g false:=by
 unfold gst at h
 split at h
 ·cases h
 ·split at h
  ·rename_i hj
   split at h
   ·rename_i hd
    split at h
    ·rename_i x hg
     split at h
     ·cases h
     ·rename_i hb
      exact anM hj hd (alO hg) (by rw [axw]; exact hb)
    ·cases h
    ·cases h
    ·rename_i hg
     split at h
     ·rename_i hu
      refine awi hj hd ?_
      have:=alO (ρ:=ρ) hg
      simp only [aay] at this
      rw [aHV hu] at this
      exact this
     ·cases h
    ·cases h
   ·cases h
  ·cases h
def aCZ (R:aa6) (d:Nat) (x:Bool):aa6:=(d,.t x)::del R d
theorem awq {ρ:Env} {R:aa6} {d nt:Nat} {v:V} {x:Bool} {a:Act} (hg:get R d=some v) (hv:aay ρ v=.bool x) (r:Regs nt a (dR ρ R)):Regs nt a (dR ρ (aCZ R d x)) :=
 ⟨r.size,r.defers,fun p hp =>by
  obtain ⟨q,hq,rfl⟩:=List.mem_map.1 hp
  rcases List.mem_cons.1 hq with e | e
  ·subst e
   have:=r.has _ (alO (ρ:=ρ) hg)
   rw [hv] at this
   exact this
  ·exact r.has _ (List.mem_map.2 ⟨q,(ajE e).1,rfl⟩)⟩
theorem aLV {ops:Array Oper} {R:aa6} {g:Option (Nat×Bool)} {d:Nat} {c:Bool} {P:Prop} {dec:Decidable P} (h:gst ops R g=some (.p d c P dec)):get R d=some (.p P dec)∧∃ j oj,g=some (j,c)∧ops[j]?=some oj∧oj.dst=some d:=by
 unfold gst at h
 split at h
 ·cases h
 ·split at h
  ·rename_i hj
   split at h
   ·rename_i hd
    split at h
    ·split at h<;>cases h
    ·rename_i hg
     cases h
     exact ⟨hg,_,_,rfl,hj,hd⟩
    ·cases h
    ·split at h<;>cases h
    ·cases h
   ·cases h
  ·cases h
theorem aLW {ops:Array Oper} {R:aa6} {g:Option (Nat×Bool)} {d:Nat} {c x:Bool} (h:gst ops R g=some (.b d c x)):get R d=some (.b x)∧∃ j oj,g=some (j,c)∧ops[j]?=some oj∧oj.dst=some d:=by
 unfold gst at h
 split at h
 ·cases h
 ·split at h
  ·rename_i hj
   split at h
   ·rename_i hd
    split at h
    ·split at h<;>cases h
    ·cases h
    ·rename_i hg
     cases h
     exact ⟨hg,_,_,rfl,hj,hd⟩
    ·split at h<;>cases h
    ·cases h
   ·cases h
  ·cases h
theorem agx {ops:Array Oper} {R:aa6} {ρ:Env} {j d:Nat} {c x:Bool} {oj:Oper} (hj:ops[j]?=some oj) (hd:oj.dst=some d):akX ops (dR ρ (aCZ R d x)) (some (j,c)) (aMm x c) :=
 anM hj hd (List.mem_cons_self ..) axw
def byG {α:Type} (ops:Array Oper) (R:aa6) (g:Option (Nat×Bool)) (yes no:aa6→Option α):Option α :=
 match gst ops R g with
 | some .yes =>yes R
 | some .no =>no R
 | some (.p d c P dec) =>match c with
  | true =>@ite _ P dec (yes (aCZ R d true)) (no (aCZ R d false))
  | false =>@ite _ P dec (no (aCZ R d true)) (yes (aCZ R d false))
 | some (.b d c x) =>match c with
  | true =>if x=true then yes (aCZ R d true) else no (aCZ R d false)
  | false =>if x=true then no (aCZ R d true) else yes (aCZ R d false)
 | none =>none
theorem aKS {α:Type} {ops:Array Oper} {R:aa6} {g:Option (Nat×Bool)} {yes no:aa6→Option α} {out:α} (h:byG ops R g yes no=some out) {ρ:Env} {nt:Nat} {a:Act} (r:Regs nt a (dR ρ R)) :
  ∃ R',Regs nt a (dR ρ R')∧((akX ops (dR ρ R') g true∧yes R'=some out)∨(akX ops (dR ρ R') g false∧no R'=some out)):=by
 unfold byG at h
 split at h
 ·rename_i hg; exact ⟨R,r,.inl ⟨aH0 hg,h⟩⟩
 ·rename_i hg; exact ⟨R,r,.inr ⟨aKn hg,h⟩⟩
 ·rename_i d c P dec hg
  obtain ⟨h1,j,oj,rfl,hj,hd⟩:=aLV hg
  by_cases hp:P
  ·have r':=awq (x:=true) h1 (by simp [aay,hp]) r
   refine ⟨_,r',?_⟩
   cases c with
   | true =>simp only [if_pos hp] at h; exact .inl ⟨agx hj hd,h⟩
   | false =>simp only [if_pos hp] at h; exact .inr ⟨agx hj hd,h⟩
  ·have r':=awq (x:=false) h1 (by simp [aay,hp]) r
   refine ⟨_,r',?_⟩
   cases c with
   | true =>simp only [if_neg hp] at h; exact .inr ⟨agx hj hd,h⟩
   | false =>simp only [if_neg hp] at h; exact .inl ⟨agx hj hd,h⟩
 ·rename_i d c x hg
  obtain ⟨h1,j,oj,rfl,hj,hd⟩:=aLW hg
  have r':=awq (x:=x) h1 rfl r
  cases x<;>cases c<;>simp only [Bool.false_eq_true,if_false,if_true] at h
  ·exact ⟨_,r',.inl ⟨agx hj hd,h⟩⟩
  ·exact ⟨_,r',.inr ⟨agx hj hd,h⟩⟩
  ·exact ⟨_,r',.inr ⟨agx hj hd,h⟩⟩
  ·exact ⟨_,r',.inl ⟨agx hj hd,h⟩⟩
 ·cases h
end
end Go.Proofs.YtidhehdanppcoaaGreat
