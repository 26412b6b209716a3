/- Evaluation by itself: slices that grow by a list; empty ones. No program occurs here. Evaluation by itself: slices whose cells are known one by one. No program occurs here. Evaluation by itself: maps from numbers to functions with a bound object. No program occurs here. Evaluation by itself: slices of zero values of several cells. No program occurs here. Evaluation by itself: kinds by their shapes. No program occurs here. Evaluation by itself: data from values,values from data. No program occurs here. Evaluation by itself: an element of a row,taken out of it. No program occurs here. -/
import Derived.Test.YtdnimkpfgjcjeaaGreatEzad
import Derived.Test.YtdnimkpfgjcjeaaGreatEzab
import Derived.Test.YtdnimkpfgjcjeaaGreatEzac
set_option linter.all false
namespace Go.Proofs.YtdnimkpfgjcjeaaGreat
section
open Go Go.RowKit
section
variable (K:KT)
def aDL (H:KT.H K):V→Option ((c:Nat)×List (K.T c))
 | .sl id =>match get H id with
  | some (.ro c ys) =>some ⟨c,ys⟩
  | some (.row c ys) =>some ⟨c,ys⟩
  | _ =>none
 | _ =>none
def aJm (P:Program) (R:aaX) (n:Nat) (Z H:KT.H K) (T T':TypeId) (x y:V):Option (List Gd×Nat×KT.H K×V) :=
 match Nat.beq T T' with
 | true =>match ahd P T with
  | some E =>match P.info? E with
   | some inf =>match ayu K H E x with
    | some ⟨c,xs,H1⟩ =>match aDL K (H1++Z) y with
     | some ⟨c',ys'⟩ =>match anr c' c ys' with
      | some ys =>match K.pl c && Nat.beq inf.size (K.sz c) && aF5 inf.zero (K.sz c) && Nat.blt 0 (K.sz c) && Nat.ble inf.bytes 140 && abB K R n Z H && Nat.ble (afi H1) n with
       | true =>some ([⟨(((xs.length+ys.length:Nat)):Int)<1000000000000,inferInstance⟩],n+1,(n,.row c (xs++ys))::H1,.sl n)
       | false =>none
      | none =>none
     | none =>none
    | none =>none
   | none =>none
  | none =>none
 | false =>none
def aJi (P:Program) (R:aaX) (n:Nat) (Z H:KT.H K) (T:TypeId) (m:Nat) (parts:List (Nat×Operand)):Option (Nat×KT.H K×V) :=
 match m with
 | 0 =>match parts with
  | [] =>match ahd P T with
   | some E =>match P.info? E with
    | some _ =>match K.tk E with
     | some c =>match abB K R n Z H with
      | true =>some (n+1,(n,.row c [])::H,.sl n)
      | false =>none
     | none =>none
    | none =>none
   | none =>none
  | _::_ =>none
 | _+1 =>none
def elK (T E:TypeId):Nat→Option Nat
 | 0 =>K.tk E
 | 1 =>K.tk E
 | _+2 =>match K.tk (T+1000000) with
  | some c =>some c
  | none =>K.tk E
def aJf (P:Program) (R:aaX) (n:Nat) (Z H:KT.H K) (T:TypeId) (m:Nat) (parts:List (Nat×Operand)):Option (Nat×KT.H K×V) :=
 match ahd P T with
 | some E =>match elK K T E m with
  | some c =>match aIe K P R H T m parts with
   | some (sz,l) =>match Nat.beq sz (K.sz c) && abB K R n Z H with
    | true =>match aAx K c m H l with
     | some (ys,H2) =>match Nat.ble (afi H2) n with
      | true =>some (n+1,(n,.row c ys)::H2,.sl n)
      | false =>none
     | none =>none
    | false =>none
   | none =>none
  | none =>none
 | none =>none
def aJb (P:Program) (R:aaX) (n:Nat) (Z H:KT.H K) (T:TypeId) (x y:V):Option (List Gd×Nat×KT.H K×V) :=
 match ahd P T with
 | some E =>match K.tk E with
  | some c =>match akB x with
   | some (_,a,_) =>match akB y with
    | some (_,b,_) =>match aHq P E with
     | some k =>match P.info? E with
      | some inf =>match inf.zero with
       | some (.int k' 0) =>match K.bk c [.i k 0] with
        | some x0 =>match atu k k' && Nat.beq inf.size 1 && Nat.beq (K.sz c) 1 && Nat.ble inf.bytes 128 && abB K R n Z H with
         | true =>some ([⟨a=b,inferInstance⟩,⟨0≤a∧a≤1099511627776,inferInstance⟩],n+1,(n,.row c (List.replicate a.toNat x0))::H,.sl n)
         | false =>none
        | none =>none
       | _ =>none
      | none =>none
     | none =>match P.info? E with
       | some inf =>match inf.zero with
        | some (.slice none 0 0) =>match K.bk c [.row 3 []] with
         | some x0 =>match Nat.beq inf.size 1 && Nat.beq (K.sz c) 1 && Nat.ble inf.bytes 128 && abB K R n Z H with
          | true =>some ([⟨a=b,inferInstance⟩,⟨0≤a∧a≤1099511627776,inferInstance⟩],n+1,(n,.row c (List.replicate a.toNat x0))::H,.sl n)
          | false =>none
         | none =>none
        | _ =>none
       | none =>none
    | none =>none
   | none =>none
  | none =>none
 | none =>none
def aJl (P:Program) (R:aaX) (n:Nat) (Z H:KT.H K) (T T':TypeId) (x y:V):Option (List Gd×Nat×KT.H K×V) :=
 match Nat.beq T T' with
 | true =>match ahd P T with
  | some E =>match P.info? E with
   | some inf =>match ayu K H E x with
    | some ⟨c,xs,H1⟩ =>match y with
     | .sl id2 =>match get H1 id2 with
      | some (.row c' ys') =>match anr c' c ys' with
       | some ys =>match Nat.beq inf.size (K.sz c) && aF5 inf.zero (K.sz c) && Nat.blt 0 (K.sz c) && Nat.ble inf.bytes 200 && abB K R n Z H && Nat.ble (afi (del H1 id2)) n with
        | true =>some ([⟨(((xs.length+ys.length:Nat)):Int)<100000000000,inferInstance⟩],n+1,(n,.row c (xs++ys))::del H1 id2,.sl n)
        | false =>none
       | none =>none
      | _ =>none
     | _ =>none
    | none =>none
   | none =>none
  | none =>none
 | false =>none
end
section
variable {K:KT} {P:Program} {nt n B:Nat} {W:World} {R:aaX} {Z H:KT.H K} {nx:Nat→KT.H K→V→Prop}
theorem aDB {o:Oper} {T:TypeId} {m:Nat} {parts:Array (Nat×Operand)} {n':Nat} {H':KT.H K} {v:V} (ho:o.op=.buildSlice T m parts) (h:aJf K P R n Z H T m parts.toList=some (n',H',v)) (hn:nx n' H' v):aed K P nt B W o R n Z H nx:=fun F ρ a w s =>by
 obtain ⟨d,op,ty,ps,af,g⟩:=o
 simp only at ho
 subst ho
 unfold aJf at h
 split at h
 ·rename_i E0 hE
  split at h
  ·rename_i c hc
   ·split at h
    ·rename_i sz l hb
     split at h
     ·rename_i hB
      split at h
      ·rename_i ys H2 hel
       split at h
       ·rename_i hB2
        cases h
        simp only [Bool.and_eq_true,abB] at hB
        obtain ⟨b0,⟨⟨b1,b2⟩,b3⟩⟩:=hB
        obtain rfl:=Nat.eq_of_beq_eq_true b0
        have b2':=Nat.le_of_ble_eq_true b2
        have hB2':=Nat.le_of_ble_eq_true hB2
        obtain ⟨E,hl,hm,hr⟩:=azL s.sat s.regs hb
        have:(execOp a.eval ⟨d,.buildSlice T m parts,ty,ps,af,g⟩).run P w=.ok (.value (.slice (some ⟨w.heap.size,0,none⟩) m m)) (w.alloc (.cells (aag ρ l).toArray E)):=by
         simp only [execOp]
         rw [aaa hr]; rfl
        rw [this]
        have ha:=ab4 ρ n ⟨some ⟨w.heap.size,0,none⟩,m,m⟩
        refine ⟨⟨ρ.setS n ⟨some ⟨w.heap.size,0,none⟩,m,m⟩,n+1,_,.sl n⟩,by simp [aat,Env.setS],⟨ha,Nat.le_succ _,(abp ha R (Nat.le_of_ble_eq_true b1)).symm,hn⟩,adK s.below s.lo _,by simpa using Nat.le_succ_of_le s.lo,?_⟩
        have s1:=s.sat.fresh (cs:=(aag ρ l).toArray) (T:=E) s.lo
        have s2:Sat B (w.alloc (.cells (aag ρ l).toArray E)) (dH K ρ H++(pts w.heap.size 0 (aag ρ l)::tl K Z F ρ)):=s1.perm (List.perm_middle (l₁:=dH K ρ H)).symm
        obtain ⟨vss,e1,e2,e3,e4,s3⟩:=as0 hel s2
        have s4:Sat B (w.alloc (.cells (aag ρ l).toArray E)) ((pts w.heap.size 0 (aag ρ l)::abY K (pcS K) c ys vss)++(dH K ρ H2++tl K Z F ρ)):=s3.perm ((List.Perm.append_left _ (List.perm_middle (l₁:=dH K ρ H2))).trans (List.perm_middle (l₁:=abY K (pcS K) c ys vss)))
        refine s4.imp fun h hk =>?_
        obtain ⟨j1,j2,a'',e'',q1,q2⟩:=aal.1 hk
        refine ⟨j1,j2,a'',e'',⟨by simp [Env.setS,e4],acL.2 ⟨vss,aaM (fun k hp =>?_) q1⟩⟩,?_⟩
        ·rw [← e1,e4]
         simp only [Env.setS,if_true]
         exact ak5 (by rw [aaS,List.length_map]; exact hl) hm k hp
        ·rw [abU ha H2 hB2',acX b2' ha] at q2; exact q2
       ·cases h
      ·cases h
     ·cases h
    ·cases h
  ·cases h
 ·cases h
theorem aDD {o:Oper} {T:TypeId} {m:Nat} {parts:Array (Nat×Operand)} {n':Nat} {H':KT.H K} {v:V} (ho:o.op=.buildSlice T m parts) (h:aJi K P R n Z H T m parts.toList=some (n',H',v)) (hn:nx n' H' v):aed K P nt B W o R n Z H nx:=fun F ρ a w s =>by
 obtain ⟨d,op,ty,ps,af,g⟩:=o
 simp only at ho
 subst ho
 unfold aJi at h
 split at h
 ·split at h
  ·rename_i hp
   split at h
   ·rename_i E hE
    split at h
    ·rename_i inf hi
     split at h
     ·rename_i c hc
      split at h
      ·rename_i hB
       cases h
       simp only [Bool.and_eq_true,abB] at hB
       obtain ⟨⟨b1,b2⟩,b3⟩:=hB
       have b2':=Nat.le_of_ble_eq_true b2
       have hU:=abN hE
       obtain rfl:parts=#[]:=by apply Array.ext'; simpa using hp
       have hr:(Instr.buildSlice T 0 (#[].map fun (i,x) =>(i,a.eval x))).run P w=.ok (.slice (some ⟨w.heap.size,0,none⟩) 0 0) (w.alloc (.cells #[] E)):=by
        unfold Instr.buildSlice
        rw [aaa (acd hU)]
        simp only
        have h1:(sizeOf E).run P w=.ok inf.size w:=by unfold sizeOf; rw [aaa (ab7 hi)]; rfl
        rw [aaa h1]
        rw [if_neg (by omega)]
        simp only [Nat.zero_mul,if_true]
        show (Sem.run P _ w)=_
        simp only [pure_bind]
        simp [Instr.fill,newRow,newObj,Sem.run,World.alloc_eq]
        congr 2
        apply Array.ext'
        simp
       have:(execOp a.eval ⟨d,.buildSlice T 0 #[],ty,ps,af,g⟩).run P w=.ok (.value (.slice (some ⟨w.heap.size,0,none⟩) 0 0)) (w.alloc (.cells #[] E)):=by
        simp only [execOp]
        rw [aaa hr]; rfl
       rw [this]
       have ha:=ab4 ρ n ⟨some ⟨w.heap.size,0,none⟩,0,0⟩
       refine ⟨⟨ρ.setS n ⟨some ⟨w.heap.size,0,none⟩,0,0⟩,n+1,_,.sl n⟩,by simp [aat,Env.setS],⟨ha,Nat.le_succ _,(abp ha R (Nat.le_of_ble_eq_true b1)).symm,hn⟩,adK s.below s.lo _,by simpa using Nat.le_succ_of_le s.lo,?_⟩
       have s1:=s.sat.fresh (cs:=#[]) (T:=E) s.lo
       refine s1.imp fun h hk =>?_
       obtain ⟨k1,k2,a',e',hp,hq⟩:=hk
       refine ⟨k1,k2,a',e',⟨by simp [Env.setS],acL.2 ⟨[],k1,fun _ _ =>none,fun _ _ =>.inr (.inl rfl),?_,?_,trivial⟩⟩,?_⟩
       ·funext x y
        unfold adf
        cases k1 x y<;>rfl
       ·refine ⟨by simp,by simp [Env.setS],by simp [Env.setS,maxLen],.inr ⟨w.heap.size,0,[],by simp [Env.setS],by simp [Env.setS],by simpa using hp⟩⟩
       ·rw [dS,abU ha H (Nat.le_of_ble_eq_true b3),acX b2' ha] at hq
        exact hq
      ·cases h
     ·cases h
    ·cases h
   ·cases h
  ·cases h
 ·cases h
theorem arp {A A2:Option Addr} {m cap sz k c by_ ty:Nat} {T:TypeId} {vs us:List Value} {E:TypeId} {z:Value} {L:List aad} {w:World} (hT:P.underlying T=some (.slice E)) (hI:aB3 P E z sz by_) (hz:z.cells.size=sz) (hsz:0<sz)
  (hsrc:k=0∨∃ b o,A2=some ⟨b,o,none⟩∧∀ j u,us[j]?=some u→w.cell? ⟨b,o+j,none⟩=some u)
  (s:Sat B w (aef A m cap sz vs::L)) (hb:Below B W w) (hl:B≤w.heap.size) (hu:us.length=k*sz) (ha:us.all acK=true) (hlen:m+k≤maxLen) (hby:(m+k)*by_≤140737488355328) :
  ∃ A' cap' w',(Builtin.append_ #[T,T] ty #[.slice A m cap,.slice A2 k c]).run P w=.ok (.slice A' (m+k) cap') w'∧Cls B W (aef A' (m+k) cap' sz (vs++us)::L) w':=by
 rcases Nat.eq_zero_or_pos k with hk | hk
 ·subst hk
  have hu0:us=[]:=List.length_eq_zero_iff.1 (by rw [hu]; simp)
  subst hu0
  obtain ⟨r1,r2,r3,r4⟩:=aeB s (List.mem_cons_self ..)
  refine ⟨A,cap,w,?_,hb,hl,by simpa using s⟩
  obtain ⟨i,hi,hz1,rfl,rfl⟩:=hI
  have h0:(Builtin.firstCells i.size 0 (.slice A2 0 c)).run P w=.ok #[] w:=by cases A2<;>simp [Builtin.firstCells,loadCells,loadCellsFrom]
  cases A with
  | none =>simp [Builtin.append_,acd hT,sizeOf,ab7 hi,Builtin.lenOf,h0,r2]
  | some a =>simp [Builtin.append_,acd hT,sizeOf,ab7 hi,Builtin.lenOf,h0,r2,storeCells]
 ·rcases hsrc with h0 | ⟨b,o,rfl,hc⟩
  ·omega
  ·exact axO (ty:=ty) (c:=c) (W:=W) (b:=b) (o:=o) hT hI hz hsz hc s hb hl hu ha hk hlen hby
theorem ajq:∀ {l:List (Fl K.T K.M)},akQ l=true→(l.map flV).all acK=true
 | [],_ =>rfl
 | f::l,h =>by
  cases f<;>simp only [akQ,Bool.false_eq_true] at h
  ·rw [List.map_cons,List.all_cons,ajq h]; rfl
  ·rw [List.map_cons,List.all_cons,ajq h]; rfl
theorem am6:∀ {l:List (Fl K.T K.M)} {L:List aad} {B:Nat} {w:World},akQ l=true→Sat B w L→Sat B w (fsS (pcS K) l (l.map flV)++L)
 | [],_,_,_,_,s =>s
 | f::l,L,B,w,h,s =>by
  cases f<;>simp only [akQ,Bool.false_eq_true] at h
  ·exact aa5 (p:=pcS K _ _) (am6 h s) fun k =>aaB.2 rfl
  ·exact aa5 (p:=pcS K _ _) (am6 h s) fun k =>aaB.2 rfl
theorem aty {c:Nat} (hc:K.pl c=true) {L:List aad} {B:Nat} {w:World} (s:Sat B w L):∀ {ys:List (K.T c)},Sat B w (abY K (pcS K) c ys (ys.map (aeR K c))++L)
 | [] =>s
 | y::ys =>by
  show Sat B w ((fsS (pcS K) (K.vw c y) ((K.vw c y).map flV)++abY K (pcS K) c ys (ys.map (aeR K c)))++L)
  rw [List.append_assoc]
  exact am6 (K.pl_ok c hc y) (aty hc s)
theorem aw1 {α:Type} {enc:α→List Value} {sz:Nat} (henc:∀ x,(enc x).length=sz):∀ {xs:List α} {j:Nat} {u:Value},(xs.flatMap enc)[j]?=some u→∃ i q x,xs[i]?=some x∧(enc x)[q]?=some u∧j=i*sz+q
 | [],j,u,h =>by cases h
 | x::xs,j,u,h =>by
  rw [List.flatMap_cons] at h
  by_cases hj:j<sz
  ·rw [List.getElem?_append_left (by rw [henc]; exact hj)] at h
   exact ⟨0,j,x,rfl,h,by omega⟩
  ·rw [List.getElem?_append_right (by rw [henc]; omega),henc] at h
   obtain ⟨i,q,y,h1,h2,h3⟩:=aw1 henc h
   exact ⟨i+1,q,y,by simpa using h1,h2,by rw [Nat.add_mul]; omega⟩
theorem aBb {H:KT.H K} {y:V} {c:Nat} {ys:List (K.T c)} (h:aDL K H y=some ⟨c,ys⟩) (hc:K.pl c=true) (hz:0<K.sz c) {ρ:Env} {B:Nat} {w:World} {X:List aad} (s:Sat B w (dH K ρ H++X)) :
  ∃ A cap,aat ρ y=.slice A ys.length cap∧(ys.length=0∨∃ b o,A=some ⟨b,o,none⟩∧∀ j u,(ys.flatMap (aeR K c))[j]?=some u→w.cell? ⟨b,o+j,none⟩=some u):=by
 have hsl:∀ {A:Option Addr} {B':Nat},Sl (aeR K c) (K.sz c) w B' A ys→(ys.length=0∨∃ b o,A=some ⟨b,o,none⟩∧∀ j u,(ys.flatMap (aeR K c))[j]?=some u→w.cell? ⟨b,o+j,none⟩=some u):=fun {A B'} hS =>by
  rcases Nat.eq_zero_or_pos ys.length with e | e
  ·exact .inl e
  ·obtain ⟨b,o,hA,_,hcell⟩:=hS.2 (fun e' =>by subst e'; simp at e)
   refine .inr ⟨b,o,hA,fun j u hj =>?_⟩
   obtain ⟨i,q,x,hx,hq,rfl⟩:=aw1 (fun x =>by unfold aeR; rw [List.length_map,K.sz_ok]) hj
   rw [← Nat.add_assoc]; exact hcell i x hx q u hq
 unfold aDL at h
 split at h
 ·rename_i id
  split at h
  ·rename_i c' ys' hg
   cases h
   refine ⟨_,_,ajl s (.inr hg),?_⟩
   have s2:=apq hg s
   exact hsl (atz s2 (List.mem_cons_self ..)).1
  ·rename_i c' ys' hg
   cases h
   refine ⟨_,_,ajl s (.inl hg),?_⟩
   obtain ⟨hh,Hh,k1,k2,a,e,⟨h1,h2⟩,hL⟩:=s.imp (aaT (ρ:=ρ) hg)
   have s2:Sat B w (rwS K c ys (ρ.s id).a (ρ.s id).c::(dH K ρ (del H id)++X)):=⟨hh,Hh,k1,k2,a,e,h2,hL⟩
   exact hsl (atz (awd hc hz s2) (List.mem_cons_self ..)).1
  ·cases h
 ·cases h
theorem aDG {o:Oper} {T T':TypeId} {x y:Operand} {u v:V} {gs:List Gd} {n':Nat} {H':KT.H K} {r:V} (ho:o.op=.call ⟨.builtin .append,#[x,y],#[T,T']⟩) (hx:evO R x=some u) (hy:evO R y=some v) (h:aJm K P R n Z H T T' u v=some (gs,n',H',r)) (hg:∀ g∈gs,g.P) (hn:nx n' H' r) :
  aed K P nt B W o R n Z H nx:=fun F ρ a w s =>by
 obtain ⟨d,op,ty,ps,af,g⟩:=o
 simp only at ho
 subst ho
 have ex:=(aaJ (ρ:=ρ) hx).eval s.regs
 have ey:=(aaJ (ρ:=ρ) hy).eval s.regs
 unfold aJm at h
 split at h
 ·rename_i hT
  obtain rfl:=Nat.eq_of_beq_eq_true hT
  split at h
  ·rename_i E hE
   split at h
   ·rename_i inf hi
    split at h
    ·rename_i c xs H1 hr
     split at h
     ·rename_i c' ys' hs
      split at h
      ·rename_i ys hy2
       split at h
       ·rename_i hB
        cases h
        obtain ⟨rfl,rfl⟩:=agH hy2
        simp only [Bool.and_eq_true,abB] at hB
        obtain ⟨⟨⟨⟨⟨⟨b0,b1⟩,b2⟩,b4⟩,b5⟩,⟨⟨b7,b8⟩,b9⟩⟩,bt⟩:=hB
        have b1':=Nat.eq_of_beq_eq_true b1
        obtain ⟨z,hz,hzsz⟩:=aru b2
        have b4':0<K.sz c':=Nat.le_of_ble_eq_true b4
        have b5':=Nat.le_of_ble_eq_true b5
        have b8':=Nat.le_of_ble_eq_true b8
        have bt':=Nat.le_of_ble_eq_true bt
        have hguard:(((xs.length+ys.length:Nat)):Int)<1000000000000:=hg _ (List.mem_singleton.2 rfl)
        obtain ⟨A,cap,hdx,htop,vss,h2,h3,s2⟩:=arJ hr s.sat
        have s3:Sat B w (dH K ρ (H1++Z)++([F]++(aef A xs.length cap (K.sz c') vss.flatten::abY K (pcS K) c' xs vss))):=s2.perm (by
         have e:dH K ρ (H1++Z)=dH K ρ H1++dH K ρ Z:=by simp [dH]
         rw [e,tl]
         refine List.Perm.symm ?_
         rw [← List.append_assoc (dH K ρ H1++dH K ρ Z),List.append_assoc (dH K ρ H1)]
         exact List.perm_append_comm.trans (by rw [List.cons_append]))
        obtain ⟨A2,cap2,hdy,hcells⟩:=aBb hs b0 b4' s3
        have hby:(xs.length+ys.length)*inf.bytes≤140737488355328:=by
         have h1:xs.length+ys.length≤1000000000000:=by omega
         have h2:(xs.length+ys.length)*inf.bytes≤1000000000000*140:=Nat.mul_le_mul h1 b5'
         omega
        have hul:(ys.flatMap (aeR K c')).length=ys.length*K.sz c':=by
         rw [List.flatMap_def,afT (sz:=K.sz c') fun v hv =>by
          obtain ⟨x,_,rfl⟩:=List.mem_map.1 hv
          unfold aeR; rw [List.length_map,K.sz_ok]]
         rw [List.length_map]
        have hsc:(ys.flatMap (aeR K c')).all acK=true:=by
         rw [List.all_eq_true]
         intro q hq
         obtain ⟨x,_,hx⟩:=List.mem_flatMap.1 hq
         exact List.all_eq_true.1 (ajq (K.pl_ok c' b0 x)) q hx
        obtain ⟨A',cap',w',hrun,c1,c2,c3⟩:=arp (ty:=ty) (W:=W) (c:=cap2) (abN hE) ⟨inf,hi,hz,b1',rfl⟩ hzsz b4' hcells s2 s.below s.lo hul hsc (by unfold maxLen; omega) hby
        have:(execOp a.eval ⟨d,.call ⟨.builtin .append,#[x,y],#[T,T]⟩,ty,ps,af,g⟩).run P w=.ok (.value (.slice A' (xs.length+ys.length) cap')) w':=by
         simp only [execOp,resolve,List.map_toArray,List.map_cons,List.map_nil,ex,ey,hdx,hdy]
         simp only [invoke,builtin]
         simp [hrun]
        rw [this]
        have ha:=ab4 ρ n ⟨A',xs.length+ys.length,cap'⟩
        refine ⟨⟨ρ.setS n ⟨A',xs.length+ys.length,cap'⟩,n+1,_,.sl n⟩,by simp [aat,Env.setS],⟨ha,Nat.le_succ _,(abp ha R (Nat.le_of_ble_eq_true b7)).symm,hn⟩,c1,c2,?_⟩
        have c4:=aty b0 c3 (ys:=ys)
        refine c4.imp fun k hk =>?_
        have g5:abC ((aef A' (xs++ys).length cap' (K.sz c') (vss++ys.map (aeR K c')).flatten::abY K (pcS K) c' (xs++ys) (vss++ys.map (aeR K c')))++(dH K ρ H1++tl K Z F ρ)) k:=by
         rw [aoE h2,List.length_append,List.flatten_append,← List.flatMap_def]
         refine abE ?_ hk
         refine (List.perm_middle (l₁:=abY K (pcS K) c' ys (ys.map (aeR K c')))).trans (List.Perm.cons _ ?_)
         exact (adl _ _ _).trans (by rw [← List.append_assoc]; exact List.Perm.refl _)
        obtain ⟨j1,j2,a'',e'',q1,q2⟩:=aal.1 g5
        refine ⟨j1,j2,a'',e'',⟨by simp [Env.setS],acL.2 ⟨vss++ys.map (aeR K c'),?_⟩⟩,?_⟩
        ·simpa [Env.setS] using q1
        ·rw [abU ha H1 bt',acX b8' ha] at q2; exact q2
       ·cases h
      ·cases h
     ·cases h
    ·cases h
   ·cases h
  ·cases h
 ·cases h
theorem awj {c:Nat} {x0:K.T c} {f:Fl K.T K.M} {z:Value} (hv:K.vw c x0=[f]) (hf:∀ h,pcS K f z h) {L:List aad} {B:Nat} {w:World} (s:Sat B w L):∀ m:Nat,Sat B w (abY K (pcS K) c (List.replicate m x0) (List.replicate m [z])++L)
 | 0 =>s
 | m+1 =>by
  rw [List.replicate_succ,List.replicate_succ]
  simp only [abY,hv,fsS,List.cons_append,List.nil_append]
  exact aa5 (p:=pcS K f z) (awj hv hf s m) hf
theorem aHc {d:Option Tmp} {ty:TypeId} {ps:String} {af:Array Edge} {g:Option (Nat×Bool)} {T E:TypeId} {x y:Operand} {u v:V} {k1 k2:IntKind} {aa:Int} {l1 l2:Bool} {inf:TypeInfo} {z:Value} {c:Nat} {x0:K.T c} {f:Fl K.T K.M} (hx:evO R x=some u) (hy:evO R y=some v) (hE:ahd P T=some E) (hu:akB u=some (k1,aa,l1)) (hv:akB v=some (k2,aa,l2)) (hi:P.info? E=some inf) (hz:inf.zero=some z) (hzc:z.cells=#[z]) (b1':inf.size=1) (b2':K.sz c=1) (b3':inf.bytes≤128) (hfr:abB K R n Z H=true) (g1:0≤aa) (g2:aa≤1099511627776) (hvw:K.vw c x0=[f]) (hf:∀ h,pcS K f z h) (hn:nx (n+1) ((n,.row c (List.replicate aa.toNat x0))::H) (.sl n)) :
  aed K P nt B W ⟨d,.makeSlice T x y,ty,ps,af,g⟩ R n Z H nx:=fun F ρ a w s =>by
 simp only [Bool.and_eq_true,abB] at hfr
 obtain ⟨⟨b7,b8⟩,b9⟩:=hfr
 have b8':=Nat.le_of_ble_eq_true b8
 have hot:=aEw (L:=dS K ρ Z H F) (W:=W) (B:=B) (n:=nt) (d:=d) (ty:=ty) (ps:=ps) (af:=af) (g:=g) (abP (ρ:=ρ) hx hu) (abP (ρ:=ρ) hy hv) (abN hE) ⟨inf,hi,hz,b1',rfl⟩ hzc g1 g2 b3' a w s
 revert hot
 generalize (execOp a.eval ⟨d,.makeSlice T x y,ty,ps,af,g⟩).run P w=res
 intro hot
 have fin:∀ (b:Nat) (w':World),Cls B W (pts b 0 (List.replicate aa.toNat z)::dS K ρ Z H F) w'→∃ ρ',aay n ρ ρ'∧aat ρ' (.sl n)=.slice (some ⟨b,0,none⟩) aa.toNat aa.toNat∧Cls B W (dS K ρ' Z ((n,.row c (List.replicate aa.toNat x0))::H) F) w':=by
  intro b w' hw'
  have ha:=ab4 ρ n ⟨some ⟨b,0,none⟩,aa.toNat,aa.toNat⟩
  refine ⟨ρ.setS n ⟨some ⟨b,0,none⟩,aa.toNat,aa.toNat⟩,ha,by simp [aat,Env.setS],hw'.1,hw'.2.1,?_⟩
  have s1:=awj hvw hf hw'.2.2 aa.toNat
  have s2:Sat B w' ((pts b 0 (List.replicate aa.toNat z)::abY K (pcS K) c (List.replicate aa.toNat x0) (List.replicate aa.toNat [z]))++dS K ρ Z H F):=s1.perm (List.perm_middle (l₁:=abY K (pcS K) c (List.replicate aa.toNat x0) (List.replicate aa.toNat [z])))
  refine s2.imp fun h hk =>?_
  obtain ⟨j1,j2,a'',e'',q1,q2⟩:=aal.1 hk
  refine ⟨j1,j2,a'',e'',⟨by simp [Env.setS],acL.2 ⟨List.replicate aa.toNat [z],aaM (fun q hp =>?_) q1⟩⟩,?_⟩
  ·have e1:(List.replicate aa.toNat [z]).flatten=List.replicate aa.toNat z:=by
    induction aa.toNat with
    | zero =>rfl
    | succ m ih =>rw [List.replicate_succ,List.flatten_cons,ih,List.replicate_succ]; rfl
   rw [e1]
   simp only [Env.setS,if_true,List.length_replicate]
   exact ak5 (by simp [b2']) (by unfold maxLen; omega) q hp
  ·rw [dS,abU ha H (Nat.le_of_ble_eq_true b9),acX b8' ha] at q2; exact q2
 cases res with
 | halt x w' =>exact hot
 | ok x w' =>
  cases x<;>first | exact hot | skip
  case value u' =>
   obtain ⟨b,rfl,hw'⟩:=hot
   obtain ⟨ρ',ha,hd,hc'⟩:=fin b w' hw'
   exact ⟨⟨ρ',n+1,_,.sl n⟩,hd.symm,⟨ha,Nat.le_succ _,(abp ha R (Nat.le_of_ble_eq_true b7)).symm,hn⟩,hc'⟩
  case skip =>
   obtain ⟨b,hb,hw'⟩:=hot
   cases hb
  case enter f args =>
   refine hot.mono fun e w'' ⟨b,he,hw'⟩ =>?_
   obtain ⟨ρ',ha,hd,hc'⟩:=fin b w'' hw'
   exact ⟨⟨ρ',n+1,_,.sl n⟩,by rw [he]; exact congrArg _ hd.symm,⟨ha,Nat.le_succ _,(abp ha R (Nat.le_of_ble_eq_true b7)).symm,hn⟩,hc'⟩
theorem aDz {o:Oper} {T:TypeId} {x y:Operand} {u v:V} {gs:List Gd} {n':Nat} {H':KT.H K} {r:V} (ho:o.op=.makeSlice T x y) (hx:evO R x=some u) (hy:evO R y=some v) (h:aJb K P R n Z H T u v=some (gs,n',H',r)) (hg:∀ g∈gs,g.P) (hn:nx n' H' r) :
  aed K P nt B W o R n Z H nx:=fun F ρ a w s =>by
 obtain ⟨d,op,ty,ps,af,g⟩:=o
 simp only at ho
 subst ho
 unfold aJb at h
 split at h
 ·rename_i E hE
  split at h
  ·rename_i c hc
   split at h
   ·rename_i k1 aa l1 hu
    split at h
    ·rename_i k2 bb l2 hv
     split at h
     ·rename_i k hk
      split at h
      ·rename_i inf hi
       split at h
       ·rename_i k' hz
        split at h
        ·rename_i x0 hx0
         split at h
         ·rename_i hB
          cases h
          simp only [Bool.and_eq_true,abB] at hB
          obtain ⟨⟨⟨⟨b0,b1⟩,b2⟩,b3⟩,⟨⟨b7,b8⟩,b9⟩⟩:=hB
          obtain rfl:=aii b0
          have b1':=Nat.eq_of_beq_eq_true b1
          have b2':=Nat.eq_of_beq_eq_true b2
          have b3':=Nat.le_of_ble_eq_true b3
          have b8':=Nat.le_of_ble_eq_true b8
          obtain rfl:aa=bb:=hg ⟨aa=bb,inferInstance⟩ (List.mem_cons_self ..)
          obtain ⟨g1,g2⟩:0≤aa∧aa≤1099511627776:=hg ⟨0≤aa∧aa≤1099511627776,inferInstance⟩ (List.mem_cons_of_mem _ (List.mem_cons_self ..))
          have hvw:=K.bk_ok _ _ _ hx0
          exact aHc hx hy hE hu hv hi hz rfl b1' b2' b3' (by simp only [Bool.and_eq_true,abB]; exact ⟨⟨b7,b8⟩,b9⟩) g1 g2 hvw (fun h =>aaB.2 rfl) hn F ρ a w s
         ·cases h
        ·cases h
       ·cases h
      ·cases h
     ·split at h
      ·rename_i inf hi
       split at h
       ·rename_i hz
        split at h
        ·rename_i x0 hx0
         split at h
         ·rename_i hB
          cases h
          simp only [Bool.and_eq_true] at hB
          obtain ⟨⟨⟨b1,b2⟩,b3⟩,b4⟩:=hB
          obtain rfl:aa=bb:=hg ⟨aa=bb,inferInstance⟩ (List.mem_cons_self ..)
          obtain ⟨g1,g2⟩:0≤aa∧aa≤1099511627776:=hg ⟨0≤aa∧aa≤1099511627776,inferInstance⟩ (List.mem_cons_of_mem _ (List.mem_cons_self ..))
          have hvw:=K.bk_ok _ _ _ hx0
          refine aHc hx hy hE hu hv hi hz rfl (Nat.eq_of_beq_eq_true b1) (Nat.eq_of_beq_eq_true b2) (Nat.le_of_ble_eq_true b3) b4 g1 g2 hvw (fun h =>aaB.2 ⟨none,0,rfl,acL.2 ⟨[],?_⟩⟩) hn F ρ a w s
          exact aqg _ _ trivial
         ·cases h
        ·cases h
       ·cases h
      ·cases h
    ·cases h
   ·cases h
  ·cases h
 ·cases h
theorem ayN {f:Fl K.T K.M} {v:Value} {h:Hp} (hf:∀ u,f≠.c u) (s:pcS K f v h):acK v=true:=by
 rw [aaB] at s
 cases f with
 | i k x =>have e:v=.int k x:=s; rw [e]; rfl
 | b x =>have e:v=.bool x:=s; rw [e]; rfl
 | c u =>exact absurd rfl (hf u)
 | own c x =>obtain ⟨q,e,_⟩:=s; rw [e]; rfl
 | row c xs =>obtain ⟨A,cap,e,_⟩:=s; rw [e]; rfl
 | ro c xs =>obtain ⟨A,cap,e,_⟩:=s; rw [e]; rfl
 | rr c xs =>obtain ⟨A,cap,e,_⟩:=s; rw [e]; rfl
 | mach m =>
  simp only [pcW] at s
  split at s
  ·rw [s]; rfl
  ·obtain ⟨q,e,_⟩:=s; rw [e]; rfl
 | o =>exact s
theorem ap5:∀ {l:List (Fl K.T K.M)} {vs:List Value} {L:List aad} {h:Hp},(∀ f∈l,∀ u,f≠.c u)→abC (fsS (pcS K) l vs++L) h→vs.all acK=true∧abC L h
 | [],[],_,_,_,s =>⟨rfl,s⟩
 | f::l,v::vs,L,h,hc,s =>by
  obtain ⟨k1,k2,a,e,h1,h2⟩:=s
  obtain ⟨h3,h4⟩:=ap5 (fun f hf =>hc f (List.mem_cons_of_mem _ hf)) h2
  refine ⟨by rw [List.all_cons,ayN (hc f (List.mem_cons_self ..)) h1,h3]; rfl,?_⟩
  have:abC (pcS K f v::(fsS (pcS K) l vs++L)) h:=⟨k1,k2,a,e,h1,h2⟩
  have:=Ent.drop h this
  exact (ap5 (fun f hf =>hc f (List.mem_cons_of_mem _ hf)) this).2
 | [],_::_,_,_,_,⟨_,_,_,_,hf,_⟩ =>hf.elim
 | _::_,[],_,_,_,⟨_,_,_,_,hf,_⟩ =>hf.elim
theorem aqV {c:Nat} (hc:∀ x:K.T c,∀ f∈K.vw c x,∀ u,f≠.c u):∀ {ys:List (K.T c)} {vss:List (List Value)} {L:List aad} {h:Hp},abC (abY K (pcS K) c ys vss++L) h→vss.flatten.all acK=true∧abC L h
 | [],[],_,_,s =>⟨rfl,s⟩
 | y::ys,vs::vss,L,h,s =>by
  have s':abC (fsS (pcS K) (K.vw c y) vs++(abY K (pcS K) c ys vss++L)) h:=by simpa [abY] using s
  obtain ⟨h1,h2⟩:=ap5 (hc y) s'
  obtain ⟨h3,h4⟩:=aqV hc h2
  exact ⟨by rw [List.flatten_cons,List.all_append,h1,h3]; rfl,h4⟩
 | [],_::_,_,_,⟨_,_,_,_,hf,_⟩ =>hf.elim
 | _::_,[],_,_,⟨_,_,_,_,hf,_⟩ =>hf.elim
theorem aDF {o:Oper} {T T':TypeId} {x y:Operand} {u v:V} {gs:List Gd} {n':Nat} {H':KT.H K} {r:V} (hnc:∀ (c:Nat) (x:K.T c),∀ f∈K.vw c x,∀ u,f≠.c u) (ho:o.op=.call ⟨.builtin .append,#[x,y],#[T,T']⟩) (hx:evO R x=some u) (hy:evO R y=some v) (h:aJl K P R n Z H T T' u v=some (gs,n',H',r)) (hg:∀ g∈gs,g.P) (hn:nx n' H' r) :
  aed K P nt B W o R n Z H nx:=fun F ρ a w s =>by
 obtain ⟨d,op,ty,ps,af,g⟩:=o
 simp only at ho
 subst ho
 have ex:=(aaJ (ρ:=ρ) hx).eval s.regs
 have ey:=(aaJ (ρ:=ρ) hy).eval s.regs
 unfold aJl at h
 split at h
 ·rename_i hT
  obtain rfl:=Nat.eq_of_beq_eq_true hT
  split at h
  ·rename_i E hE
   split at h
   ·rename_i inf hi
    split at h
    ·rename_i c xs H1 hr
     split at h
     ·rename_i id2
      split at h
      ·rename_i c' ys' hgr
       split at h
       ·rename_i ys hy2
        split at h
        ·rename_i hB
         cases h
         obtain ⟨rfl,rfl⟩:=agH hy2
         simp only [Bool.and_eq_true,abB] at hB
         obtain ⟨⟨⟨⟨⟨b1,b2⟩,b4⟩,b5⟩,⟨⟨b7,b8⟩,b9⟩⟩,bt⟩:=hB
         have b1':=Nat.eq_of_beq_eq_true b1
         obtain ⟨z,hz,hzsz⟩:=aru b2
         have b4':0<K.sz c':=Nat.le_of_ble_eq_true b4
         have b5':=Nat.le_of_ble_eq_true b5
         have b8':=Nat.le_of_ble_eq_true b8
         have bt':=Nat.le_of_ble_eq_true bt
         have hguard:(((xs.length+ys.length:Nat)):Int)<100000000000:=hg _ (List.mem_singleton.2 rfl)
         obtain ⟨A,cap,hdx,htop,vss,h2,h3,s2⟩:=arJ hr s.sat
         have s3:Sat B w (dH K ρ H1++(aef A xs.length cap (K.sz c') vss.flatten::(abY K (pcS K) c' xs vss++tl K Z F ρ))):=s2.perm (by
          refine List.Perm.symm ?_
          refine (List.perm_middle (l₁:=dH K ρ H1)).trans (List.Perm.cons _ ?_)
          exact adl _ _ _)
         have hdy:=ajl s3 (.inl hgr)
         obtain ⟨hn2,vs2,e1,e2,s4⟩:=aiU s3 hgr
         obtain ⟨r1,r2,r3,r4⟩:=aeB s4 (List.mem_cons_self ..)
         have s5:Sat B w (aef A xs.length cap (K.sz c') vss.flatten::(abY K (pcS K) c' ys vs2++(abY K (pcS K) c' xs vss++(dH K ρ (del H1 id2)++tl K Z F ρ)))):=by
          have s6:Sat B w (abY K (pcS K) c' ys vs2++(dH K ρ (del H1 id2)++(aef A xs.length cap (K.sz c') vss.flatten::(abY K (pcS K) c' xs vss++tl K Z F ρ)))):=s4.drop
          refine s6.perm ?_
          refine (List.Perm.append_left _ (List.perm_middle (l₁:=dH K ρ (del H1 id2)))).trans ?_
          refine (List.perm_middle (l₁:=abY K (pcS K) c' ys vs2)).trans (List.Perm.cons _ ?_)
          exact List.Perm.append_left _ (adl _ _ _)
         have hby:(xs.length+ys.length)*inf.bytes≤140737488355328:=by
          have h1:xs.length+ys.length≤100000000000:=by omega
          have h2:(xs.length+ys.length)*inf.bytes≤100000000000*200:=Nat.mul_le_mul h1 b5'
          omega
         have hul:vs2.flatten.length=ys.length*K.sz c':=by rw [afT e2,e1]
         have hsc:vs2.flatten.all acK=true:=by
          have s7:=s5.drop
          obtain ⟨hh,Hh,hs⟩:=s7
          exact (aqV (hnc c') hs).1
         have hcells:ys.length=0∨∃ b o,(ρ.s id2).a=some ⟨b,o,none⟩∧∀ j u,vs2.flatten[j]?=some u→w.cell? ⟨b,o+j,none⟩=some u:=by
          rcases r4 with ⟨_,r4⟩ | ⟨b,o,r4,r5⟩
          ·left; omega
          ·exact .inr ⟨b,o,r4,r5⟩
         obtain ⟨A',cap',w',hrun,c1,c2,c3⟩:=arp (ty:=ty) (W:=W) (c:=(ρ.s id2).c) (abN hE) ⟨inf,hi,hz,b1',rfl⟩ hzsz b4' hcells s5 s.below s.lo hul hsc (by unfold maxLen; omega) hby
         have:(execOp a.eval ⟨d,.call ⟨.builtin .append,#[x,y],#[T,T]⟩,ty,ps,af,g⟩).run P w=.ok (.value (.slice A' (xs.length+ys.length) cap')) w':=by
          simp only [execOp,resolve,List.map_toArray,List.map_cons,List.map_nil,ex,ey,hdx,hdy]
          simp only [invoke,builtin]
          simp [hrun]
         rw [this]
         have ha:=ab4 ρ n ⟨A',xs.length+ys.length,cap'⟩
         refine ⟨⟨ρ.setS n ⟨A',xs.length+ys.length,cap'⟩,n+1,_,.sl n⟩,by simp [aat,Env.setS],⟨ha,Nat.le_succ _,(abp ha R (Nat.le_of_ble_eq_true b7)).symm,hn⟩,c1,c2,?_⟩
         refine c3.imp fun k hk =>?_
         have g5:abC ((aef A' (xs++ys).length cap' (K.sz c') (vss++vs2).flatten::abY K (pcS K) c' (xs++ys) (vss++vs2))++(dH K ρ (del H1 id2)++tl K Z F ρ)) k:=by
          rw [aoE h2,List.length_append,List.flatten_append]
          refine abE (List.Perm.cons _ ?_) hk
          exact (adl _ _ _).trans (by rw [← List.append_assoc]; exact List.Perm.refl _)
         obtain ⟨j1,j2,a'',e'',q1,q2⟩:=aal.1 g5
         refine ⟨j1,j2,a'',e'',⟨by simp [Env.setS],acL.2 ⟨vss++vs2,?_⟩⟩,?_⟩
         ·simpa [Env.setS] using q1
         ·rw [abU ha _ bt',acX b8' ha] at q2; exact q2
        ·cases h
       ·cases h
      ·cases h
     ·cases h
    ·cases h
   ·cases h
  ·cases h
 ·cases h
end
theorem ayF {b o:Nat} {xs ys:List Value} {h k:Hp} (a:apart h k) (p:pts b o xs h) (q:pts b (o+xs.length) ys k):pts b o (xs++ys) (adf h k):=fun i v hi =>by
 rcases Nat.lt_or_ge i xs.length with hl | hl
 ·rw [List.getElem?_append_left hl] at hi
  unfold adf; rw [p i v hi]
 ·rw [List.getElem?_append_right hl] at hi
  have:=q (i-xs.length) v hi
  rw [show o+xs.length+(i-xs.length)=o+i by omega] at this
  rw [ap0 a]
  unfold adf; rw [this]
def hpL (b o:Nat) (h:Hp):Hp:=fun x y =>if x=b∧y<o then h x y else none
def hpR (b o:Nat) (h:Hp):Hp:=fun x y =>if x=b∧y<o then none else h x y
theorem aB4 (b o:Nat) (h:Hp):apart (hpL b o h) (hpR b o h)∧h=adf (hpL b o h) (hpR b o h):=by
 refine ⟨fun x y =>?_,?_⟩
 ·by_cases hc:x=b∧y<o
  ·exact .inr (.inl (by unfold hpR; rw [if_pos hc]))
  ·exact .inl (by unfold hpL; rw [if_neg hc])
 ·funext x y
  unfold adf hpL hpR
  by_cases hc:x=b∧y<o
  ·rw [if_pos hc,if_pos hc]; cases h x y<;>rfl
  ·rw [if_neg hc,if_neg hc]
theorem axy {b o:Nat} {xs ys:List Value} {L:List aad} {h:Hp} (s:abC ((fun k =>pts b o (xs++ys) k)::L) h):abC (pts b o xs::pts b (o+xs.length) ys::L) h:=by
 obtain ⟨k1,k2,a,e,hp,hL⟩:=s
 obtain ⟨p1,p2⟩:=aj9 hp
 obtain ⟨a1,e1⟩:=aB4 b (o+xs.length) k1
 have q1:pts b o xs (hpL b (o+xs.length) k1):=fun i v hi =>by
  have hl:=(List.getElem?_eq_some_iff.1 hi).1
  unfold hpL; rw [if_pos ⟨rfl,by omega⟩]; exact p1 i v hi
 have q2:pts b (o+xs.length) ys (hpR b (o+xs.length) k1):=fun i v hi =>by
  unfold hpR; rw [if_neg (by omega)]; exact p2 i v hi
 rw [e1] at a e
 have a2:=(aa4 a1).1 a
 refine ⟨_,adf (hpR b (o+xs.length) k1) k2,?_,by rw [e,adu],q1,_,k2,a2.2,rfl,q2,hL⟩
 exact aas ((aa4 a2.2).2 ⟨aas a1,aas a2.1⟩)
section
variable {K:KT}
def aAV {T:Nat→Type} {M:Type}:List (Fd T M)→Option (List V)
 | [] =>some []
 | .v x::l =>match aAV l with
  | some xs =>some (x::xs)
  | none =>none
 | .f _::_ =>none
theorem av2 {T:Nat→Type} {M:Type}:∀ {l:List (Fd T M)} {vs:List V},aAV l=some vs→l=vs.map .v
 | [],vs,h =>by cases h; rfl
 | .v x::l,vs,h =>by
  unfold aAV at h
  split at h
  ·rename_i xs hx; cases h; rw [av2 hx]; rfl
  ·cases h
 | .f _::_,_,h =>by cases h
theorem ap7 {ρ:Env}:∀ {vs:List V} {us:List Value} {L:List aad} {h:Hp},abC (fsS (fS K ρ) (vs.map .v) us++L) h→us=aag ρ vs∧abC L h
 | [],[],_,_,s =>⟨rfl,s⟩
 | v::vs,u::us,L,h,⟨k1,k2,a,e,h1,h2⟩ =>by
  have h1':u=aat ρ v:=h1
  obtain ⟨h3,h4⟩:=ap7 h2
  refine ⟨by rw [h1',h3]; rfl,?_⟩
  have s:abC (fS K ρ (.v v) u::(fsS (fS K ρ) (vs.map .v) us++L)) h:=⟨k1,k2,a,e,h1,h2⟩
  exact (ap7 (Ent.drop h s)).2
 | [],_::_,_,_,⟨_,_,_,_,hf,_⟩ =>hf.elim
 | _::_,[],_,_,⟨_,_,_,_,hf,_⟩ =>hf.elim
theorem aBe {ρ:Env} {B:Nat} {w:World} {H:KT.H K} {X:List aad} {id e m sz:Nat} {vs:List V} (s:Sat B w (dH K ρ H++X)) (hg:get H id=some (.slc e m sz)) (hg2:get (del H id) e=some (.cells (vs.map .v))) (hl:vs.length=m*sz) :
  (ρ.s id).n=m∧Sat B w (aef (ρ.s id).a m (ρ.s id).c sz (aag ρ vs)::(dH K ρ (del (del H id) e)++X)):=by
 have h1:=awb s hg
 refine ⟨h1.2,?_⟩
 have s1:=s.imp (aaT (ρ:=ρ) hg)
 obtain ⟨hh,Hh,k1,k2,a,e1,⟨⟨c1,c2,c3,c4⟩,spare,c5,c6⟩,hL⟩:=s1
 have s2:Sat B w (pts (ρ.p e).1 ((ρ.p e).2+m*sz) spare::(dH K ρ (del H id)++X)):=⟨hh,Hh,k1,k2,a,e1,c6,hL⟩
 have s3:=(s2.perm (List.perm_middle (l₁:=dH K ρ (del H id))).symm).imp (aaT (ρ:=ρ) hg2)
 obtain ⟨us,s4⟩:=ahe s3
 have s5:Sat B w (fsS (fS K ρ) (vs.map .v) us++(pts (ρ.p e).1 (ρ.p e).2 us::(dH K ρ (del (del H id) e)++(pts (ρ.p e).1 ((ρ.p e).2+m*sz) spare::X)))):=s4.perm (List.perm_middle (l₁:=fsS (fS K ρ) (vs.map .v) us)).symm
 obtain ⟨h6,Hh6,s6⟩:=s5
 obtain ⟨rfl,s7⟩:=ap7 s6
 have s8:abC (pts (ρ.p e).1 (ρ.p e).2 (aag ρ vs)::pts (ρ.p e).1 ((ρ.p e).2+m*sz) spare::(dH K ρ (del (del H id) e)++X)) h6:=abE (List.Perm.cons _ (List.perm_middle (l₁:=dH K ρ (del (del H id) e)))) s7
 obtain ⟨j1,j2,ja,je,p1,j3,j4,ja2,je2,p2,jL⟩:=s8
 have hdl:(aag ρ vs).length=m*sz:=by rw [aaS,List.length_map,hl]
 subst je2
 have a3:=(aa4 ja2).1 (aas ja)
 refine ⟨h6,Hh6,adf j1 j3,j4,?_,by rw [je,adu],⟨hdl,c3,c4,.inr ⟨_,_,spare,c1,c5,?_⟩⟩,jL⟩
 ·exact (aa4 (aas a3.1)).2 ⟨aas a3.2,ja2⟩
 ·exact ayF (aas a3.1) p1 (by rw [hdl]; exact p2)
variable (K) in
def aDR (H:KT.H K) (sz:Nat):V→Option (Nat×List V×KT.H K)
 | .sl id =>match get H id with
  | some (.slc e m sz') =>match get (del H id) e with
   | some (.cells fs) =>match aAV fs with
    | some vs =>match Nat.beq sz' sz && Nat.beq vs.length (m*sz) with
     | true =>some (m,vs,del (del H id) e)
     | false =>none
    | none =>none
   | _ =>none
  | _ =>none
 | .c (.slice none 0 0) =>some (0,[],H)
 | _ =>none
theorem aBf {H:KT.H K} {sz:Nat} {x:V} {m:Nat} {vs:List V} {H1:KT.H K} (h:aDR K H sz x=some (m,vs,H1)) {ρ:Env} {B:Nat} {w:World} {X:List aad} (s:Sat B w (dH K ρ H++X)) :
  ∃ A cap,aat ρ x=.slice A m cap∧afi H1≤afi H∧vs.length=m*sz∧Sat B w (aef A m cap sz (aag ρ vs)::(dH K ρ H1++X)):=by
 unfold aDR at h
 split at h
 ·rename_i id
  split at h
  ·rename_i e m' sz' hg
   split at h
   ·rename_i fs hg2
    split at h
    ·rename_i us hv
     split at h
     ·rename_i hB
      cases h
      simp only [Bool.and_eq_true] at hB
      obtain rfl:=Nat.eq_of_beq_eq_true hB.1
      have hl:=Nat.eq_of_beq_eq_true hB.2
      rw [av2 hv] at hg2
      obtain ⟨h1,h2⟩:=aBe s hg hg2 hl
      exact ⟨_,_,by rw [aat,h1],Nat.le_trans aeT aeT,hl,h2⟩
     ·cases h
    ·cases h
   ·cases h
  ·cases h
 ·cases h
  exact ⟨none,0,rfl,Nat.le_refl _,by simp,s.imp (aqg _)⟩
 ·cases h
variable (K) in
def aJk (P:Program) (R:aaX) (n:Nat) (Z H:KT.H K) (T T':TypeId) (x y:V):Option (Nat×KT.H K×V) :=
 match Nat.beq T T' with
 | true =>match ahd P T with
  | some E =>match P.info? E with
   | some inf =>match y with
    | .sl id2 =>match get H id2 with
     | some (.arr m2 sz us) =>match aDR K (del H id2) sz x with
      | some (m,vs,H1) =>match Nat.beq inf.size sz && aF5 inf.zero sz && Nat.blt 0 m2 && Nat.blt 0 sz && Nat.ble ((m+m2)*inf.bytes) 1000000 && Nat.ble (m+m2) 1000000 && (us.all (scV (del H id2)) && Nat.ble (ahp (vs++us)) n && abB K R n Z H && Nat.ble (afi H1) n) with
       | true =>some (n+2,(n,.slc (n+1) (m+m2) sz)::(n+1,.cells ((vs++us).map .v))::H1,.sl n)
       | false =>none
      | none =>none
     | _ =>none
    | _ =>none
   | none =>none
  | none =>none
 | false =>none
variable {P:Program} {nt n B:Nat} {W:World} {R:aaX} {Z H:KT.H K} {nx:Nat→KT.H K→V→Prop}
theorem aDE {o:Oper} {T T':TypeId} {x y:Operand} {u v:V} {n':Nat} {H':KT.H K} {r:V} (ho:o.op=.call ⟨.builtin .append,#[x,y],#[T,T']⟩) (hx:evO R x=some u) (hy:evO R y=some v) (h:aJk K P R n Z H T T' u v=some (n',H',r)) (hn:nx n' H' r) :
  aed K P nt B W o R n Z H nx:=fun F ρ a w s =>by
 obtain ⟨d,op,ty,ps,af,g⟩:=o
 simp only at ho
 subst ho
 have ex:=(aaJ (ρ:=ρ) hx).eval s.regs
 have ey:=(aaJ (ρ:=ρ) hy).eval s.regs
 unfold aJk at h
 split at h
 ·rename_i hT
  obtain rfl:=Nat.eq_of_beq_eq_true hT
  split at h
  ·rename_i E hE
   split at h
   ·rename_i inf hi
    split at h
    ·rename_i id2
     split at h
     ·rename_i m2 sz us hg2
      split at h
      ·rename_i m vs H1 hr
       split at h
       ·rename_i hB
        cases h
        simp only [Bool.and_eq_true,abB] at hB
        obtain ⟨⟨⟨⟨⟨⟨b1,b2⟩,b3⟩,b4⟩,b5⟩,b6⟩,⟨⟨b7,b8⟩,⟨⟨b9,b10⟩,b11⟩⟩,b12⟩:=hB
        have b1':=Nat.eq_of_beq_eq_true b1
        obtain ⟨z,hz,hzsz⟩:=aru b2
        have b3':0<m2:=Nat.le_of_ble_eq_true b3
        have b4':0<sz:=Nat.le_of_ble_eq_true b4
        have b5':=Nat.le_of_ble_eq_true b5
        have b6':=Nat.le_of_ble_eq_true b6
        have b8':=Nat.le_of_ble_eq_true b8
        have b10':=Nat.le_of_ble_eq_true b10
        have b12':=Nat.le_of_ble_eq_true b12
        obtain ⟨⟨a1,a2,a3⟩,s4⟩:=axk (X:=tl K Z F ρ) s.sat hg2
        have hsc:(aag ρ us).all acK=true:=by
         rw [aaS,List.all_map,List.all_eq_true]
         intro q hq
         exact ayk (List.all_eq_true.1 b7 q hq) s4.drop
        have s5:Sat B w (dH K ρ (del H id2)++(pts (ρ.p id2).1 (ρ.p id2).2 (aag ρ us)::tl K Z F ρ)):=s4.perm (List.perm_middle (l₁:=dH K ρ (del H id2))).symm
        obtain ⟨A,cap,hdx,htop,hvl,s6⟩:=aBf hr s5
        have s7:Sat B w (aef A m cap sz (aag ρ vs)::pts (ρ.p id2).1 (ρ.p id2).2 (aag ρ us)::(dH K ρ H1++tl K Z F ρ)):=s6.perm (List.Perm.cons _ (List.perm_middle (l₁:=dH K ρ H1)))
        obtain ⟨A',cap',w',hrun,c1,c2,c3⟩:=anA (ty:=ty) (c:=m2) (W:=W) (abN hE) ⟨inf,hi,hz,b1',rfl⟩ hzsz b4' s7 s.below s.lo (by rw [aaS]; simpa using a2) hsc b3' (by unfold maxLen; omega) (by omega)
        have:(execOp a.eval ⟨d,.call ⟨.builtin .append,#[x,y],#[T,T]⟩,ty,ps,af,g⟩).run P w=.ok (.value (.slice A' (m+m2) cap')) w':=by
         simp only [execOp,resolve,List.map_toArray,List.map_cons,List.map_nil,ex,ey,hdx,aat,a1]
         simp only [invoke,builtin]
         simp [hrun]
        rw [this]
        obtain ⟨r1,r2,r3,r4⟩:=aeB c3 (List.mem_cons_self ..)
        have hA:∃ b o,A'=some ⟨b,o,none⟩:=by
         rcases r4 with ⟨_,r4⟩ | ⟨b,o,r4,_⟩
         ·omega
         ·exact ⟨b,o,r4⟩
        obtain ⟨b,o,rfl⟩:=hA
        let ρ':=(ρ.setP (n+1) (b,o)).setS n ⟨some ⟨b,o,none⟩,m+m2,cap'⟩
        have ha:aay n ρ ρ':=((ah9 ρ (n+1) (b,o)).le (Nat.le_succ _)).trans (ab4 _ n _) (Nat.le_refl _)
        refine ⟨⟨ρ',n+2,_,.sl n⟩,by simp [aat,ρ',Env.setS],⟨ha,Nat.le_add_right _ 2,(abp ha R (Nat.le_of_ble_eq_true b9)).symm,hn⟩,c1,c2,?_⟩
        have c4:Sat B w' (aef (some ⟨b,o,none⟩) (m+m2) cap' sz (aag ρ vs++aag ρ us)::(dH K ρ H1++tl K Z F ρ)):=(c3.perm (List.Perm.swap ..)).drop
        refine c4.imp fun k hk =>?_
        obtain ⟨k1,k2,ka,ke,⟨q1,q2,q3,q4⟩,hL⟩:=hk
        rcases q4 with ⟨q4,_⟩ | ⟨b',o',spare,q4,q5,q6⟩
        ·cases q4
        ·injection q4 with q4
         injection q4 with q4a q4b
         subst q4a q4b
         have hall:abC ((fun k =>pts b o ((aag ρ vs++aag ρ us)++spare) k)::(dH K ρ H1++tl K Z F ρ)) k:=⟨k1,k2,ka,ke,q6,hL⟩
         have hsp:=axy hall
         rw [q1] at hsp
         have e3:dH K ρ H1++tl K Z F ρ=dH K ρ' H1++tl K Z F ρ':=by rw [abU ha H1 b12',acX b10' ha]
         rw [e3] at hsp
         have e4:aag ρ vs++aag ρ us=aag ρ' (vs++us):=by rw [← amr,adH ha _ b8']
         have hsw:abC (pts b (o+(m+m2)*sz) spare::pts b o (aag ρ vs++aag ρ us)::(dH K ρ' H1++tl K Z F ρ')) k:=apl hsp
         refine aaM (A':=acI K ρ' n (.slc (n+1) (m+m2) sz)) (fun q hq =>⟨⟨by simp [ρ',Env.setS,Env.setP],by simp [ρ',Env.setS],by simp [ρ',Env.setS]; exact q2,by simp [ρ',Env.setS]; exact q3⟩,spare,by simp [ρ',Env.setS]; exact q5,by simpa [ρ',Env.setS,Env.setP] using hq⟩) (abi (fun q hq =>?_) hsw)
         refine aaM (A':=acI K ρ' (n+1) (.cells ((vs++us).map .v))) (fun q hq =>?_) hq
         refine ⟨aag ρ' (vs++us),?_⟩
         rw [e4] at hq
         have hq':abC [pts b o (aag ρ' (vs++us))] q:=⟨q,fun _ _ =>none,fun _ _ =>.inr (.inl rfl),by funext x y; unfold adf; cases q x y<;>rfl,hq,trivial⟩
         have hq2:=abE (List.Perm.symm (List.perm_append_comm (l₁:=fsS (fS K ρ') ((vs++us).map .v) (aag ρ' (vs++us))) (l₂:=[pts b o (aag ρ' (vs++us))])).symm) (aiy (K:=K) hq')
         have hq3:=abE (List.perm_append_comm (l₁:=fsS (fS K ρ') ((vs++us).map .v) (aag ρ' (vs++us)))) (aiy (K:=K) hq')
         simpa [ρ',Env.setS,Env.setP] using hq3
       ·cases h
      ·cases h
     ·cases h
    ·cases h
   ·cases h
  ·cases h
 ·cases h
variable (K) in
def aFX (P:Program) (R:aaX) (H:KT.H K) (T:TypeId) (x y:Operand):Option ((Nat×Nat)×(Nat×Int×Nat)×IntKind) :=
 match evO R x with
 | some (.sl id) =>match get H id with
  | some (.slc e m sz) =>match agG P T with
   | some sz' =>match Nat.beq sz' sz with
    | true =>match evO R y with
     | some u =>match akB u with
      | some (k,j,_) =>some ((e,0),(m,j,sz),k)
      | none =>none
     | none =>none
    | false =>none
   | none =>none
  | _ =>none
 | _ =>none
theorem azI {ρ:Env} {T:TypeId} {x y:Operand} {id o len sz:Nat} {j:Int} {kk:IntKind} {X:List aad} {w0:World} (h:aFX K P R H T x y=some ((id,o),(len,j,sz),kk)) (s:Sat B w0 (dH K ρ H++X)) {a:Act} (r:Regs nt a (dR ρ R)) {i:Nat} (hi:i<len) (hj:j=((i:Nat):Int))
  {d:Option Tmp} {ty:TypeId} {ps:String} {af:Array Edge} {g:Option (Nat×Bool)} (w:World):(execOp a.eval ⟨d,.indexAddr T x y,ty,ps,af,g⟩).run P w=.ok (.value (aat ρ (.ptr id (o+i*sz)))) w:=by
 unfold aFX at h
 split at h
 ·rename_i id' hx
  split at h
  ·rename_i e m sz' hg
   split at h
   ·rename_i sz2 he
    split at h
    ·rename_i hsz
     split at h
     ·rename_i u hy
      split at h
      ·rename_i k' j' l' hi'
       cases h
       obtain rfl:=Nat.eq_of_beq_eq_true hsz
       have ex:=aaJ (ρ:=ρ) hx
       have ey:=abP (ρ:=ρ) hy hi'
       obtain ⟨h1,h2⟩:=awb s hg
       simp only [aat,h1,h2] at ex
       have:=ail (P:=P) (n:=nt) (d:=d) (ty:=ty) (ps:=ps) (af:=af) (g:=g) (i:=i) (o':=(ρ.p id).2+(0+i*sz2)) ex ey hj hi he (by omega)
       exact this a w r
      ·cases h
     ·cases h
    ·cases h
   ·cases h
  ·cases h
 ·cases h
theorem aCf {ρ:Env} {T:TypeId} {x y:Operand} {q:Nat×Nat} {len sz:Nat} {j:Int} {kk:IntKind} (h:aFX K P R H T x y=some (q,(len,j,sz),kk)):∃ u,evO R y=some u∧aat ρ u=.int kk j:=by
 unfold aFX at h
 split at h
 ·split at h
  ·split at h
   ·split at h
    ·split at h
     ·rename_i u hy
      split at h
      ·rename_i hi
       cases h; exact ⟨u,hy,aiw hi⟩
      ·cases h
     ·cases h
    ·cases h
   ·cases h
  ·cases h
 ·cases h
end
def aHf (P:Program) (T:TypeId):Option TypeId:=match P.underlying T with
 | some (.map kt et) =>match P.underlying kt with
  | some (.int .i64) =>some et
  | _ =>none
 | _ =>none
theorem azf {P:Program} {T et:TypeId} (h:aHf P T=some et):∃ kt,P.underlying T=some (.map kt et)∧P.underlying kt=some (.int .i64):=by
 unfold aHf at h
 split at h
 ·rename_i kt e h1
  split at h
  ·rename_i h2; cases h; exact ⟨kt,h1,h2⟩
  ·cases h
 ·cases h
section
variable (K:KT)
def aJF (l:List (Int×FuncId)) (o o':Nat):Bool:=l.isEmpty || Nat.beq o o'
def aId (P:Program) (R:aaX) (n:Nat) (Z H:KT.H K) (op:Op):Option (Nat×KT.H K×V):=match op with
 | .insert T x k v =>match evO R x with
  | some (.mc id) =>match get H id with
   | some (.fm l o) =>match evO R k with
    | some (.l .i64 j) =>match evO R v with
     | some (.bd f [.ptr o' 0]) =>match aJF l o o' with
      | true =>match aHf P T with
       | some _ =>some (n,(id,.fm ((j,f)::l) o')::del H id,.c undef)
       | none =>none
      | false =>none
     | _ =>none
    | _ =>none
   | _ =>none
  | _ =>none
 | .makeMap T none =>match aHf P T with
  | some _ =>match abB K R n Z H with
   | true =>some (n+1,(n,.fm [] 0)::H,.mc n)
   | false =>none
  | none =>none
 | _ =>none
def aw0 {α:Type} (j:Int) (z:Value) (o:Nat) (k:V→Option α):List (Int×FuncId)→Option α
 | [] =>k (.tup [.c z,.t false])
 | x::l =>if j=x.1 then k (.tup [.bd x.2 [.ptr o 0],.t true]) else aw0 j z o k l
def aJd (P:Program) (R:aaX) (H:KT.H K) (T:TypeId) (x y:Operand):Option ((List (Int×FuncId)×Nat)×Int×Value):=match evO R x with
 | some (.mc id) =>match get H id with
  | some (.fm l o) =>match evO R y with
   | some kv =>match akB kv with
    | some (.i64,j,_) =>match aHf P T with
     | some et =>match avZ P et with
      | some z =>some ((l,o),j,z)
      | none =>none
     | none =>none
    | _ =>none
   | none =>none
  | _ =>none
 | _ =>none
end
section
variable {K:KT} {P:Program} {nt n B:Nat} {W:World} {R:aaX} {Z H:KT.H K} {nx:Nat→KT.H K→V→Prop}
theorem aFa {p q:Value}:∀ {l:List (Int×FuncId)},l.isEmpty=true→fmF p l=fmF q l
 | [],_ =>rfl
theorem auk {α:Type} {j:Int} {z:Value} {o:Nat} {k:V→Option α} {out:α} {ρ:Env}:∀ {l:List (Int×FuncId)},aw0 j z o k l=some out→∃ v,k v=some out∧aat ρ v=.tuple #[(fmF (aat ρ (.ptr o 0)) l j).getD z,.bool (fmF (aat ρ (.ptr o 0)) l j).isSome]
 | [],h =>⟨_,h,rfl⟩
 | x::l,h =>by
  unfold aw0 at h
  split at h
  ·rename_i e
   refine ⟨_,h,?_⟩
   simp only [fmF,if_pos e,aat,aag,Option.getD,Option.isSome]
  ·rename_i e
   obtain ⟨v,h1,h2⟩:=auk (ρ:=ρ) h
   refine ⟨v,h1,h2.trans ?_⟩
   simp only [fmF,if_neg e]
theorem aHG {ρ:Env} {id o:Nat} {l:List (Int×FuncId)} {w:World} {X:List aad} (hg:get H id=some (.fm l o)) (s:Sat B w (dH K ρ H++X)) :
  ∃ b es clock,ρ.v id=.map (some b)∧w.heap[b]?=some (.map es clock)∧auQ (fun v:Value =>v) (fmF (aat ρ (.ptr o 0)) l) es.toList∧Sat B w (axS b (.map es clock)::(dH K ρ (del H id)++X)):=by
 have s1:=s.imp (aaT (ρ:=ρ) hg)
 obtain ⟨h,Hh,k1,k2,a,e,hA,hL⟩:=s1
 obtain ⟨b,e1,es,clock,hr,ho⟩:=hA
 have s2:Sat B w (axS b (.map es clock)::(dH K ρ (del H id)++X)):=⟨h,Hh,k1,k2,a,e,ho,hL⟩
 exact ⟨b,es,clock,e1,s2.obj.2.1,hr,s2⟩
theorem azE {ρ:Env} {id b o:Nat} {l:List (Int×FuncId)} {es:Array MapEntry} {clock:Nat} {w:World} {X:List aad} {G:KT.H K} (he:ρ.v id=.map (some b)) (hr:auQ (fun v:Value =>v) (fmF (aat ρ (.ptr o 0)) l) es.toList) (s:Sat B w (axS b (.map es clock)::(dH K ρ G++X))) :
  Sat B w (dH K ρ ((id,.fm l o)::G)++X):=by
 obtain ⟨h,Hh,k1,k2,a,e,ho,hL⟩:=s
 exact ⟨h,Hh,k1,k2,a,e,⟨b,he,es,clock,hr,ho⟩,hL⟩
theorem azJ {o:Oper} {n':Nat} {H':KT.H K} {v:V} (h:aId K P R n Z H o.op=some (n',H',v)) (hn:nx n' H' v):aed K P nt B W o R n Z H nx:=fun F ρ a w s =>by
 obtain ⟨d,op,ty,ps,af,g⟩:=o
 simp only at h
 unfold aId at h
 split at h
 ·rename_i T x k v0
  split at h
  ·rename_i id hx
   split at h
   ·rename_i l o hg
    split at h
    ·rename_i j hk
     split at h
     ·rename_i f o' hu
      split at h
      ·rename_i hok
       split at h
       ·rename_i et hT
        cases h
        have ex:=(aaJ (ρ:=ρ) hx).eval s.regs
        have ek:=(aaJ (ρ:=ρ) hk).eval s.regs
        have eu:=(aaJ (ρ:=ρ) hu).eval s.regs
        obtain ⟨kt,t1,t2⟩:=azf hT
        obtain ⟨b,es,clock,e1,e2,hr,s2⟩:=aHG hg s.sat
        have hm:fmF (aat ρ (.ptr o 0)) l=fmF (aat ρ (.ptr o' 0)) l:=by
         unfold aJF at hok
         rcases Bool.or_eq_true _ _ |>.mp hok with h1 | h1
         ·exact aFa h1
         ·rw [Nat.eq_of_beq_eq_true h1]
        rw [hm] at hr
        obtain ⟨es',clock',hp,hr'⟩:=aBr (k:=j) (x:=aat ρ (.bd f [.ptr o' 0])) t1 t2 e2 hr
        have:(execOp a.eval ⟨d,.insert T x k v0,ty,ps,af,g⟩).run P w=.ok .skip (w.putObj b (.map es' clock')):=by
         have e3:aat ρ (.mc id)=.map (some b):=by simp only [aat,e1]
         have e4:aat ρ (.l .i64 j)=.int .i64 j:=by simp only [aat]
         simp only [execOp,ex,ek,eu,e3,e4]
         rw [aaa hp]; rfl
        rw [this]
        obtain ⟨c1,c2,c3⟩:=Cls.putObj (o':=.map es' clock') ⟨s.below,s.lo,s2⟩ rfl
        exact ⟨⟨ρ,n,_,.c undef⟩,rfl,⟨aay.refl _ _,Nat.le_refl _,rfl,hn⟩,c1,c2,azE e1 hr' c3⟩
       ·cases h
      ·cases h
     ·cases h
    ·cases h
   ·cases h
  ·cases h
 ·rename_i T
  split at h
  ·rename_i et hT
   split at h
   ·rename_i hF
    cases h
    simp only [abB,Bool.and_eq_true] at hF
    obtain ⟨⟨b1,b0⟩,b2⟩:=hF
    have b1':=Nat.le_of_ble_eq_true b1
    have b0':=Nat.le_of_ble_eq_true b0
    have b2':=Nat.le_of_ble_eq_true b2
    have:(execOp a.eval ⟨d,.makeMap T none,ty,ps,af,g⟩).run P w=.ok (.value (.map (some w.heap.size))) (w.alloc (.map #[] 0)):=by
     simp only [execOp,Option.map_none,Instr.makeMap]
     simp [newObj,Sem.run,World.alloc_eq]
    rw [this]
    have ha:=anC ρ n (.map (some w.heap.size))
    obtain ⟨c1,c2,c3⟩:=Cls.newObj (o:=.map #[] 0) s.cls rfl
    refine ⟨⟨ρ.setV n (.map (some w.heap.size)),n+1,_,.mc n⟩,by simp [aat,Env.setV],⟨ha,Nat.le_succ _,(abp ha R b1').symm,hn⟩,c1,c2,?_⟩
    have c4:Sat B (w.alloc (.map #[] 0)) (axS w.heap.size (.map #[] 0)::(dH K (ρ.setV n (.map (some w.heap.size))) H++tl K Z F (ρ.setV n (.map (some w.heap.size))))):=by
     rw [← abU ha H b2',← acX b0' ha]; exact c3
    exact azE (by simp [Env.setV]) ⟨fun e he =>(by simp at he),by simp,fun k =>rfl⟩ c4
   ·cases h
  ·cases h
 ·cases h
theorem aFk {o:Oper} {T:TypeId} {x y:Operand} {l:List (Int×FuncId)} {q:Nat} {j:Int} {z:Value} (ho:o.op=.lookup T x y true) (h:aJd K P R H T x y=some ((l,q),j,z)) (hn:∀ ρ:Env,∃ v,nx n H v∧aat ρ v=.tuple #[(fmF (aat ρ (.ptr q 0)) l j).getD z,.bool (fmF (aat ρ (.ptr q 0)) l j).isSome]):aed K P nt B W o R n Z H nx:=fun F ρ a w s =>by
 obtain ⟨d,op,ty,ps,af,g⟩:=o
 simp only at ho
 subst ho
 unfold aJd at h
 split at h
 ·rename_i id hx
  split at h
  ·rename_i l' o' hg
   split at h
   ·rename_i kv hk
    split at h
    ·rename_i j' _ hi
     split at h
     ·rename_i et hT
      split at h
      ·rename_i z' hz
       cases h
       have ex:=(aaJ (ρ:=ρ) hx).eval s.regs
       have ek:=(aaJ (ρ:=ρ) hk).eval s.regs
       obtain ⟨kt,t1,t2⟩:=azf hT
       obtain ⟨b,es,clock,e1,e2,hr,_⟩:=aHG hg s.sat
       have hl:=azh (k:=j) (ok:=true) t1 t2 (aoB (w:=w) hz) e2 hr.1
       obtain ⟨v,hv1,hv2⟩:=hn ρ
       have hf:ag4 j es.toList=fmF (aat ρ (.ptr q 0)) l j:=by
        rw [hr.2.2 j]; cases fmF (aat ρ (.ptr q 0)) l j<;>rfl
       rw [hf,if_pos rfl,← hv2] at hl
       have:(execOp a.eval ⟨d,.lookup T x y true,ty,ps,af,g⟩).run P w=.ok (.value (aat ρ v)) w:=by
        simp only [execOp,ex,ek,aat,e1,aiw hi]
        rw [aaa hl]; rfl
       rw [this]
       exact ⟨⟨ρ,n,H,v⟩,rfl,⟨aay.refl _ _,Nat.le_refl _,rfl,hv1⟩,s.cls⟩
      ·cases h
     ·cases h
    ·cases h
   ·cases h
  ·cases h
 ·cases h
end
theorem aBU {cs:Array Value} {k i:Nat} (h0:0<cs.size) (hi:i<k):(madeCells cs k).toList[i]?=cs.toList[i % cs.size]?:=by
 have hm:i % cs.size<cs.size:=Nat.mod_lt _ h0
 simp [madeCells,hi,hm]
theorem ayA {l:List Value} (h0:0<l.length):∀ {m i:Nat},i<m*l.length→(List.replicate m l).flatten[i]?=l[i % l.length]?
 | 0,i,h =>by rw [Nat.zero_mul] at h; omega
 | m+1,i,h =>by
  rw [List.replicate_succ,List.flatten_cons]
  by_cases hi:i<l.length
  ·rw [List.getElem?_append_left hi,Nat.mod_eq_of_lt hi]
  ·rw [List.getElem?_append_right (by omega),ayA h0 (by rw [Nat.add_mul] at h; omega),Nat.mod_eq_sub_mod (by omega:i ≥ l.length)]
theorem azg {cs:Array Value} (h0:0<cs.size) (m:Nat):(madeCells cs (m*cs.size)).toList=(List.replicate m cs.toList).flatten:=by
 have hl:((List.replicate m cs.toList).flatten).length=m*cs.size:=by simp
 have hl':(madeCells cs (m*cs.size)).toList.length=m*cs.size:=by simp [madeCells]
 apply List.ext_getElem?
 intro i
 by_cases hi:i<m*cs.size
 ·rw [aBU h0 hi,ayA (l:=cs.toList) (by simpa using h0) (by simpa using hi)]
  simp
 ·rw [List.getElem?_eq_none (by omega),List.getElem?_eq_none (by omega)]
section
variable (K:KT)
def aCi:List (Fl K.T K.M)→List Value→Bool
 | [],[] =>true
 | .i k x::l,.int k' y::vs =>atu k k' && decide (x=0) && decide (y=0) && aCi l vs
 | .b x::l,.bool y::vs =>(!x) && (!y) && aCi l vs
 | .row _ xs::l,.slice none 0 0::vs =>xs.isEmpty && aCi l vs
 | _,_ =>false
def aJa (P:Program) (R:aaX) (n:Nat) (Z H:KT.H K) (T:TypeId) (x y:V):Option (List Gd×Nat×KT.H K×V) :=
 match ahd P T with
 | some E =>match K.tk E with
  | some c =>match akB x with
   | some (_,a,_) =>match akB y with
    | some (_,b,_) =>match P.info? E with
     | some inf =>match inf.zero with
      | some z =>match aCi K (K.vw c (K.df c)) z.cells.toList && Nat.beq inf.size z.cells.size && Nat.beq (K.sz c) z.cells.size && Nat.blt 0 (K.sz c) && Nat.ble inf.bytes 128 && abB K R n Z H with
       | true =>some ([⟨a=b,inferInstance⟩,⟨0≤a∧a≤1099511627776,inferInstance⟩],n+1,(n,.row c (List.replicate a.toNat (K.df c)))::H,.sl n)
       | false =>none
      | none =>none
     | none =>none
    | none =>none
   | none =>none
  | none =>none
 | none =>none
end
section
variable {K:KT} {P:Program} {nt n B:Nat} {W:World} {R R':aaX} {Z H:KT.H K} {nx:Nat→KT.H K→V→Prop}
theorem asF {L:List aad} {B:Nat} {w:World} (s:Sat B w L):∀ {l:List (Fl K.T K.M)} {vs:List Value},aCi K l vs=true→Sat B w (fsS (pcS K) l vs++L)
 | [],[],_ =>s
 | .i k x::l,.int k' y::vs,h =>by
  simp only [aCi,Bool.and_eq_true,decide_eq_true_eq] at h
  obtain ⟨⟨⟨h1,h2⟩,h3⟩,h4⟩:=h
  have e:=aii h1
  subst e h2 h3
  exact aa5 (p:=pcS K (.i k 0) (.int k 0)) (asF s h4) fun h =>aaB.2 rfl
 | .b x::l,.bool y::vs,h =>by
  simp only [aCi,Bool.and_eq_true,Bool.not_eq_true'] at h
  obtain ⟨⟨h1,h2⟩,h3⟩:=h
  subst h1 h2
  exact aa5 (p:=pcS K (.b false) (.bool false)) (asF s h3) fun h =>aaB.2 rfl
 | .row c xs::l,.slice none 0 0::vs,h =>by
  simp only [aCi,Bool.and_eq_true] at h
  have e:xs=[]:=List.isEmpty_iff.1 h.1
  subst e
  exact aa5 (p:=pcS K (.row c []) (.slice none 0 0)) (asF s h.2) fun h =>aaB.2 ⟨none,0,rfl,acL.2 ⟨[],aqg _ _ trivial⟩⟩
theorem atD {c:Nat} {x0:K.T c} {zs:List Value} (hz:aCi K (K.vw c x0) zs=true) {L:List aad} {B:Nat} {w:World} (s:Sat B w L):∀ m:Nat,Sat B w (abY K (pcS K) c (List.replicate m x0) (List.replicate m zs)++L)
 | 0 =>s
 | m+1 =>by
  rw [List.replicate_succ,List.replicate_succ]
  simp only [abY,List.append_assoc]
  exact asF (atD hz s m) hz
theorem aBI {d:Option Tmp} {ty:TypeId} {ps:String} {af:Array Edge} {g:Option (Nat×Bool)} {T E:TypeId} {x y:Operand} {Q:ade} {L:List aad} {k k':IntKind} {a:Int} {i:TypeInfo} {z:Value} (hx:EvalR Q x (.int k a)) (hy:EvalR Q y (.int k' a)) (hT:P.underlying T=some (.slice E)) (hi:P.info? E=some i) (hz1:i.zero=some z) (hz2:i.size=z.cells.size) (hz:0<z.cells.size) (h0:0≤a) (h1:a≤1099511627776) (hby:i.bytes≤128) :
  OT P nt B W ⟨d,.makeSlice T x y,ty,ps,af,g⟩ Q L (X:=Nat) (fun b =>.slice (some ⟨b,0,none⟩) a.toNat a.toNat) (fun b =>pts b 0 (List.replicate a.toNat z.cells.toList).flatten::L):=fun ac w s =>by
 have hr:=run_make (P:=P) w T E i z hT hi hz1 k k' a a h0 (Int.le_refl _) (by
  have:(i.bytes:Int)*a≤128*a:=Int.mul_le_mul_of_nonneg_right (by omega) h0
  omega) (by omega)
 have:(execOp ac.eval ⟨d,.makeSlice T x y,ty,ps,af,g⟩).run P w=.ok (.value (.slice (some ⟨w.heap.size,0,none⟩) a.toNat a.toNat)) (w.alloc (.cells (madeCells z.cells (a.toNat*i.size)) E)):=by
  simp only [execOp,hx.eval s.regs,hy.eval s.regs]
  rw [aaa hr]; rfl
 rw [this]
 refine ⟨w.heap.size,rfl,adK s.below s.lo _,by simpa using Nat.le_succ_of_le s.lo,?_⟩
 show Sat B _ (pts w.heap.size 0 (List.replicate a.toNat z.cells.toList).flatten::L)
 rw [← azg hz,← hz2]
 exact s.sat.fresh s.lo
theorem aDy {o:Oper} {T:TypeId} {x y:Operand} {u v:V} {gs:List Gd} {n':Nat} {H':KT.H K} {r:V} (ho:o.op=.makeSlice T x y) (hx:evO R x=some u) (hy:evO R y=some v) (h:aJa K P R n Z H T u v=some (gs,n',H',r)) (hg:∀ g∈gs,g.P) (hn:nx n' H' r) :
  aed K P nt B W o R n Z H nx:=fun F ρ a w s =>by
 obtain ⟨d,op,ty,ps,af,g⟩:=o
 simp only at ho
 subst ho
 unfold aJa at h
 split at h
 ·rename_i E hE
  split at h
  ·rename_i c hc
   split at h
   ·rename_i k1 aa l1 hu
    split at h
    ·rename_i k2 bb l2 hv
     split at h
     ·rename_i inf hi
      split at h
      ·rename_i z hz
       split at h
       ·rename_i hB
        cases h
        simp only [Bool.and_eq_true,abB] at hB
        obtain ⟨⟨⟨⟨⟨b1,b2⟩,b3⟩,b4⟩,b5⟩,⟨⟨b7,b8⟩,b9⟩⟩:=hB
        have b2':=Nat.eq_of_beq_eq_true b2
        have b3':=Nat.eq_of_beq_eq_true b3
        have b4':0<K.sz c:=Nat.le_of_ble_eq_true b4
        have b8':=Nat.le_of_ble_eq_true b8
        obtain rfl:aa=bb:=hg ⟨aa=bb,inferInstance⟩ (List.mem_cons_self ..)
        obtain ⟨g1,g2⟩:0≤aa∧aa≤1099511627776:=hg ⟨0≤aa∧aa≤1099511627776,inferInstance⟩ (List.mem_cons_of_mem _ (List.mem_cons_self ..))
        have hot:=aBI (L:=dS K ρ Z H F) (W:=W) (B:=B) (nt:=nt) (d:=d) (ty:=ty) (ps:=ps) (af:=af) (g:=g) (abP (ρ:=ρ) hx hu) (abP (ρ:=ρ) hy hv) (abN hE) hi hz b2' (by omega) g1 g2 (Nat.le_of_ble_eq_true b5) a w s
        revert hot
        generalize (execOp a.eval ⟨d,.makeSlice T x y,ty,ps,af,g⟩).run P w=res
        intro hot
        have hlen:z.cells.toList.length=K.sz c:=by rw [Array.length_toList]; omega
        have fin:∀ (b:Nat) (w':World),Cls B W (pts b 0 (List.replicate aa.toNat z.cells.toList).flatten::dS K ρ Z H F) w'→∃ ρ',aay n ρ ρ'∧aat ρ' (.sl n)=.slice (some ⟨b,0,none⟩) aa.toNat aa.toNat∧Cls B W (dS K ρ' Z ((n,.row c (List.replicate aa.toNat (K.df c)))::H) F) w':=by
         intro b w' hw'
         have ha:=ab4 ρ n ⟨some ⟨b,0,none⟩,aa.toNat,aa.toNat⟩
         refine ⟨ρ.setS n ⟨some ⟨b,0,none⟩,aa.toNat,aa.toNat⟩,ha,by simp [aat,Env.setS],hw'.1,hw'.2.1,?_⟩
         have s1:=atD b1 hw'.2.2 aa.toNat
         have s2:Sat B w' ((pts b 0 (List.replicate aa.toNat z.cells.toList).flatten::abY K (pcS K) c (List.replicate aa.toNat (K.df c)) (List.replicate aa.toNat z.cells.toList))++dS K ρ Z H F):=s1.perm (List.perm_middle (l₁:=abY K (pcS K) c (List.replicate aa.toNat (K.df c)) (List.replicate aa.toNat z.cells.toList)))
         refine s2.imp fun h hk =>?_
         obtain ⟨j1,j2,a'',e'',q1,q2⟩:=aal.1 hk
         refine ⟨j1,j2,a'',e'',⟨by simp [Env.setS],acL.2 ⟨List.replicate aa.toNat z.cells.toList,aaM (fun q hp =>?_) q1⟩⟩,?_⟩
         ·simp only [Env.setS,if_true,List.length_replicate]
          exact ak5 (by rw [afT (sz:=K.sz c) (fun v hv =>by rw [(List.mem_replicate.1 hv).2]; exact hlen),List.length_replicate]) (by unfold maxLen; omega) q hp
         ·rw [dS,abU ha H (Nat.le_of_ble_eq_true b9),acX b8' ha] at q2; exact q2
        cases res with
        | halt x w' =>exact hot
        | ok x w' =>
         cases x<;>first | exact hot | skip
         case value u' =>
          obtain ⟨b,rfl,hw'⟩:=hot
          obtain ⟨ρ',ha,hd,hc'⟩:=fin b w' hw'
          exact ⟨⟨ρ',n+1,_,.sl n⟩,hd.symm,⟨ha,Nat.le_succ _,(abp ha R (Nat.le_of_ble_eq_true b7)).symm,hn⟩,hc'⟩
         case skip =>
          obtain ⟨b,hb,hw'⟩:=hot
          cases hb
         case enter f args =>
          refine hot.mono fun e w'' ⟨b,he,hw'⟩ =>?_
          obtain ⟨ρ',ha,hd,hc'⟩:=fin b w'' hw'
          exact ⟨⟨ρ',n+1,_,.sl n⟩,by rw [he]; exact congrArg _ hd.symm,⟨ha,Nat.le_succ _,(abp ha R (Nat.le_of_ble_eq_true b7)).symm,hn⟩,hc'⟩
       ·cases h
      ·cases h
     ·cases h
    ·cases h
   ·cases h
  ·cases h
 ·cases h
end
inductive Sh where
 | i (k:IntKind)
 | b
 | own (c:Nat)
 | row (c:Nat)
 | ro (c:Nat)
 | rr (c:Nat)
 | mach
 | o
section
variable (T:Nat→Type) (M:Type)
def shT:Sh→Type
 | .i _ =>Int
 | .b =>Bool
 | .own c =>T c
 | .row c =>List (T c)
 | .ro c =>List (T c)
 | .rr c =>List (List (T c))
 | .mach =>M
 | .o =>Unit
def HL:List Sh→Type
 | [] =>Unit
 | s::l =>shT T M s×HL l
def vw1:(s:Sh)→shT T M s→Fl T M
 | .i k,x =>.i k x
 | .b,x =>.b x
 | .own c,x =>.own c x
 | .row c,x =>.row c x
 | .ro c,x =>.ro c x
 | .rr c,x =>.rr c x
 | .mach,x =>.mach x
 | .o,_ =>.o
def vwP:(l:List Sh)→HL T M l→List (Fl T M)
 | [],_ =>[]
 | s::l,p =>vw1 T M s p.1::vwP l p.2
def cst {F:Nat→Type} (c c':Nat) (x:F c):Option (F c'):=if h:c=c' then some (h▸x) else none
theorem aw6 {F:Nat→Type} {c c':Nat} {x:F c} {y:F c'} (h:cst c c' x=some y):∃ e:c=c',y=e▸x:=by
 unfold cst at h
 split at h
 ·rename_i e; cases h; exact ⟨e,rfl⟩
 ·cases h
def aJt:IntKind→IntKind→Bool
 | .i64,.i64 =>true
 | .u64,.u64 =>true
 | .u8,.u8 =>true
 | _,_ =>false
theorem aFG {k k':IntKind} (h:aJt k k'=true):k=k':=by cases k<;>cases k'<;>first | rfl | cases h
def bk1:(s:Sh)→Fl T M→Option (shT T M s)
 | .i k =>fun f =>match f with
  | .i k' x =>match aJt k' k with
   | true =>some x
   | false =>none
  | _ =>none
 | .b =>fun f =>match f with
  | .b x =>some x
  | _ =>none
 | .own c =>fun f =>match f with
  | .own c' x =>cst (F:=T) c' c x
  | _ =>none
 | .row c =>fun f =>match f with
  | .row c' x =>cst (F:=fun c =>List (T c)) c' c x
  | _ =>none
 | .ro c =>fun f =>match f with
  | .ro c' x =>cst (F:=fun c =>List (T c)) c' c x
  | _ =>none
 | .rr c =>fun f =>match f with
  | .rr c' x =>cst (F:=fun c =>List (List (T c))) c' c x
  | _ =>none
 | .mach =>fun f =>match f with
  | .mach x =>some x
  | _ =>none
 | .o =>fun f =>match f with
  | .o =>some ()
  | _ =>none
theorem aAn {s:Sh} {f:Fl T M} {x:shT T M s} (h:bk1 T M s f=some x):vw1 T M s x=f:=by
 cases s with
 | i k =>
  cases f<;>first | (have h':(none:Option (shT T M (.i k)))=some x:=h; cases h'; done) | skip
  rename_i k' y
  have h':(match aJt k' k with | true =>some y | false =>none)=some x:=h
  split at h'
  ·rename_i e; cases h'; rw [aFG e]; rfl
  ·cases h'
 | b =>
  cases f<;>first | (have h':(none:Option (shT T M .b))=some x:=h; cases h'; done) | skip
  rename_i y
  have h':some y=some x:=h
  cases h'; rfl
 | own c =>
  cases f<;>first | (have h':(none:Option (shT T M (.own c)))=some x:=h; cases h'; done) | skip
  rename_i c' y
  obtain ⟨e,h2⟩:=aw6 (show cst (F:=T) c' c y=some x from h)
  subst e; subst h2; rfl
 | row c =>
  cases f<;>first | (have h':(none:Option (shT T M (.row c)))=some x:=h; cases h'; done) | skip
  rename_i c' y
  obtain ⟨e,h2⟩:=aw6 (show cst (F:=fun c =>List (T c)) c' c y=some x from h)
  subst e; subst h2; rfl
 | ro c =>
  cases f<;>first | (have h':(none:Option (shT T M (.ro c)))=some x:=h; cases h'; done) | skip
  rename_i c' y
  obtain ⟨e,h2⟩:=aw6 (show cst (F:=fun c =>List (T c)) c' c y=some x from h)
  subst e; subst h2; rfl
 | rr c =>
  cases f<;>first | (have h':(none:Option (shT T M (.rr c)))=some x:=h; cases h'; done) | skip
  rename_i c' y
  obtain ⟨e,h2⟩:=aw6 (show cst (F:=fun c =>List (List (T c))) c' c y=some x from h)
  subst e; subst h2; rfl
 | mach =>
  cases f<;>first | (have h':(none:Option (shT T M .mach))=some x:=h; cases h'; done) | skip
  rename_i y
  have h':some y=some x:=h
  cases h'; rfl
 | o =>
  cases f<;>first | (have h':(none:Option (shT T M .o))=some x:=h; cases h'; done) | skip
  rfl
def bkP:(l:List Sh)→List (Fl T M)→Option (HL T M l)
 | [],[] =>some ()
 | s::l,f::fs =>match bk1 T M s f with
  | some x =>match bkP l fs with
   | some p =>some (x,p)
   | none =>none
  | none =>none
 | _,_ =>none
theorem aAm:∀ {l:List Sh} {fs:List (Fl T M)} {p:HL T M l},bkP T M l fs=some p→vwP T M l p=fs
 | [],[],p,_ =>rfl
 | s::l,f::fs,p,h =>by
  unfold bkP at h
  split at h
  ·rename_i x hx
   split at h
   ·rename_i q hq
    cases h
    show vw1 T M s x::vwP T M l q=_
    rw [aAn _ _ hx,aAm hq]
   ·cases h
  ·cases h
 | [],_::_,_,h =>by cases h
 | _::_,[],_,h =>by cases h
theorem aGe (s:Sh) (x:shT T M s) (u:Value):vw1 T M s x≠.c u:=by cases s<;>exact fun h =>by cases h
theorem aCP:∀ (l:List Sh) (p:HL T M l),∀ f∈vwP T M l p,∀ u,f≠.c u
 | [],_,f,h,_ =>by cases h
 | s::l,p,f,h,u =>by
  rcases List.mem_cons.1 (show f∈vw1 T M s p.1::vwP T M l p.2 from h) with e | e
  ·subst e; exact aGe T M s p.1 u
  ·exact aCP l p.2 f e u
theorem axZ:∀ {l:List Sh} {p:HL T M l},(vwP T M l p).length=l.length
 | [],_ =>rfl
 | s::l,p =>by
  show (vw1 T M s p.1::vwP T M l p.2).length=_
  rw [List.length_cons,axZ,List.length_cons]
def aGG:List Sh→Bool
 | [] =>true
 | s::l =>match s with
  | .i _ =>aGG l
  | .b =>aGG l
  | _ =>false
theorem au9:∀ (l:List Sh) (p:HL T M l),aGG l=true→akQ (vwP T M l p)=true
 | [],_,_ =>rfl
 | .i k::l,p,h =>au9 l p.2 h
 | .b::l,p,h =>au9 l p.2 h
 | .own _::_,_,h =>by cases h
 | .row _::_,_,h =>by cases h
 | .ro _::_,_,h =>by cases h
 | .rr _::_,_,h =>by cases h
 | .mach::_,_,h =>by cases h
 | .o::_,_,h =>by cases h
end
structure Shp where
 T:Nat→Type
 M:Type
 sh:Nat→List Sh
 to_:(c:Nat)→T c→HL T M (sh c)
 of:(c:Nat)→HL T M (sh c)→T c
 ok:∀ c p,to_ c (of c p)=p
 df:(c:Nat)→T c
 tid:Nat→TypeId
 tk:TypeId→Option Nat
 spl:M→Option (Σ c:Nat,T c)
 nilM:M
 nilM_ok:spl nilM=none
 mkM:(c:Nat)→T c→Option M
 mkM_ok:∀ c x m,mkM c x=some m→spl m=some ⟨c,x⟩
 kd:TypeId→Option Nat
 kd_ok:∀ t c,kd t=some c→tid c=t
 ls:(c c':Nat)→Option (PLift (T c'=List (T c)))
 ls_ok:∀ c c' h,ls c c'=some h→∀ x,vwP T M (sh c') (to_ c' x)=[.ro c (h.down▸x)]∨(vwP T M (sh c') (to_ c' x)=[.row c (h.down▸x)]∧aGG (sh c)=true∧0<(sh c).length)
abbrev Shp.kt (S:Shp):KT where
 T:=S.T
 M:=S.M
 df:=S.df
 sz:=fun c =>(S.sh c).length
 vw:=fun c x =>vwP S.T S.M (S.sh c) (S.to_ c x)
 bk:=fun c l =>(bkP S.T S.M (S.sh c) l).map (S.of c)
 bk_ok:=fun c l x h =>by
  simp only [Option.map_eq_some_iff] at h
  obtain ⟨p,hp,rfl⟩:=h
  rw [S.ok]; exact aAm _ _ hp
 sz_ok:=fun c x =>axZ _ _
 pl:=fun c =>aGG (S.sh c)
 pl_ok:=fun c h x =>au9 _ _ _ _ h
 nc:=fun c x =>aCP _ _ _ _
 tid:=S.tid
 tk:=S.tk
 spl:=S.spl
 nilM:=S.nilM
 nilM_ok:=S.nilM_ok
 mkM:=S.mkM
 mkM_ok:=S.mkM_ok
 kd:=S.kd
 kd_ok:=S.kd_ok
 ls:=S.ls
 ls_ok:=S.ls_ok
theorem aar {α:Type _} {l m:List α} (h:∀ (f:List α→Nat) (g:α→Nat),(∀ x y,f (x++y)=f x+f y)→(∀ a x,f (a::x)=g a+f x)→f []=0→f l=f m):l.Perm m:=by
 classical
 rw [List.perm_iff_count]
 intro a
 refine h (fun l =>l.count a) (fun x =>if x == a then 1 else 0) (fun x y =>List.count_append) (fun b x =>?_) rfl
 simp only [List.count_cons]; omega
theorem apd {T:Nat→Type} {M:Type}:∀ l:List (Fl T M),alu (l.map (Fd.f:Fl T M→Fd T M))=0
 | [] =>rfl
 | _::l =>by simp only [List.map_cons,alu,apd l,aCQ]; rfl
theorem ahI {B:Nat} {w:World} {N L:List aad} {A:aad} (f:∀ h,abC N h→A h) (s:Sat B w (N++L)):Sat B w (A::L):=by
 obtain ⟨h,Hh,hs⟩:=s
 obtain ⟨k1,k2,a,e,g1,g2⟩:=aal.1 hs
 exact ⟨h,Hh,k1,k2,a,e,f _ g1,g2⟩
section
variable (S:Shp)
def chL (n:Nat):Option (Ch S.T S.M)→List (Nat×Ch S.T S.M)
 | none =>[]
 | some c =>[(n,c)]
def opL:Nat→List (Fl S.T S.M)→List V×List (Nat×Ch S.T S.M)
 | _,[] =>([],[])
 | n,f::l =>((opF S.kt.vw n (.f f)).1::(opL (n+1) l).1,chL S n (opF S.kt.vw n (.f f)).2++(opL (n+1) l).2)
def dfS:(s:Sh)→shT S.T S.M s
 | .i _ =>(0:Int)
 | .b =>false
 | .own c =>S.df c
 | .row _ =>[]
 | .ro _ =>[]
 | .rr _ =>[]
 | .mach =>S.nilM
 | .o =>()
def aAw (H:S.kt.H) (s:Sh) (v:V):Option (shT S.T S.M s×S.kt.H) :=
 match asm S.kt H (vw1 S.T S.M s (dfS S s)) v with
 | some (f,H') =>match bk1 S.T S.M s f with
  | some x =>some (x,H')
  | none =>none
 | none =>none
def roZ (Z:S.kt.H) (s:Sh) (v:V):Option (shT S.T S.M s) :=
 match s with
 | .ro c =>match v with
  | .sl id =>match get Z id with
   | some (.ro c' xs) =>anr c' c xs
   | _ =>none
  | _ =>none
 | _ =>none
def aIp (Z H:S.kt.H) (s:Sh) (v:V):Option (shT S.T S.M s×S.kt.H) :=
 match aAw S H s v with
 | some r =>some r
 | none =>match roZ S Z s v with
  | some x =>some (x,H)
  | none =>none
end
section
variable {S:Shp} {B:Nat} {w:World}
theorem dHa {ρ:Env} (H H':List (Nat×Ch S.T S.M)):dH S.kt ρ (H++H')=dH S.kt ρ H++dH S.kt ρ H':=by simp [dH]
theorem apK {n:Nat} {f:Fl S.T S.M} {v:Value} {ρ:Env} {Y:List aad} {X:Env→List aad} (hX:∀ ρ ρ',aay n ρ ρ'→X ρ=X ρ') (s:Sat B w (pcS S.kt f v::(Y++X ρ))) :
  ∃ ρ',aay n ρ ρ'∧v=aat ρ' (opF S.kt.vw n (.f f)).1∧Sat B w (Y++(dH S.kt ρ' (chL S n (opF S.kt.vw n (.f f)).2)++X ρ')):=by
 obtain ⟨h,Hh,k1,k2,a,e,hA,hL⟩:=s
 obtain ⟨ρ',ha,hv,hd⟩:=ay7 (K:=S.kt) (ρ:=ρ) (n:=n) (f:=.f f) (Nat.zero_le _) hA
 refine ⟨ρ',ha,hv,?_⟩
 rw [hX ρ ρ' ha] at hL
 cases hc:(opF S.kt.vw n (.f f)).2 with
 | none =>
  have:Sat B w (pcS S.kt f v::(Y++X ρ')):=⟨h,Hh,k1,k2,a,e,hA,hL⟩
  exact this.imp Ent.drop
 | some c =>
  rw [hc] at hd
  have:Sat B w (acI S.kt ρ' n c::(Y++X ρ')):=⟨h,Hh,k1,k2,a,e,hd,hL⟩
  exact this.perm (List.perm_middle (l₁:=Y)).symm
theorem avP {n:Nat} {f:Fl S.T S.M} {ρ ρ':Env} (h:aay (n+1) ρ ρ'):dH S.kt ρ (chL S n (opF S.kt.vw n (.f f)).2)=dH S.kt ρ' (chL S n (opF S.kt.vw n (.f f)).2):=by
 cases hc:(opF S.kt.vw n (.f f)).2 with
 | none =>rfl
 | some c =>
  have:=(aim (K:=S.kt) (n:=n) (f:=.f f) (Nat.zero_le _)).2 c hc
  refine abU h _ ?_
  exact aqJ ⟨aqJ ⟨Nat.le_refl _,Nat.le_succ_of_le this⟩,Nat.zero_le _⟩
theorem al4:∀ {l:List (Fl S.T S.M)} {n:Nat} {ρ ρ':Env},aay (n+l.length) ρ ρ'→aag ρ (opL S n l).1=aag ρ' (opL S n l).1∧dH S.kt ρ (opL S n l).2=dH S.kt ρ' (opL S n l).2
 | [],_,_,_,_ =>⟨rfl,rfl⟩
 | f::l,n,ρ,ρ',a =>by
  have a':aay (n+1+l.length) ρ ρ':=a.le (by simp only [List.length_cons]; omega)
  obtain ⟨t3,t4⟩:=al4 a'
  have htop:=(aim (K:=S.kt) (n:=n) (f:=.f f) (Nat.zero_le _)).1
  simp only [opL,aag,dHa]
  rw [abe (a.le (by simp only [List.length_cons]; omega)) _ htop,t3,avP (a.le (by simp only [List.length_cons]; omega)),t4]
  exact ⟨rfl,rfl⟩
theorem ay6:∀ {l:List (Fl S.T S.M)} {n:Nat} {us:List Value} {ρ:Env} {Y:List aad} {X:Env→List aad},(∀ ρ ρ',aay n ρ ρ'→X ρ=X ρ')→Sat B w (fsS (pcS S.kt) l us++(Y++X ρ)) →
  ∃ ρ',aay n ρ ρ'∧us=aag ρ' (opL S n l).1∧Sat B w (Y++(dH S.kt ρ' (opL S n l).2++X ρ'))
 | [],n,us,ρ,Y,X,hX,s =>by
  have:=ajm (pc:=pcS S.kt) (A:=fun _ =>True) (aa5 (p:=fun _ =>True) s fun _ =>trivial)
  cases us with
  | nil =>exact ⟨ρ,aay.refl _ _,rfl,s⟩
  | cons u us =>cases this
 | f::l,n,us,ρ,Y,X,hX,s =>by
  have hlen:=ajm (pc:=pcS S.kt) (A:=fun _ =>True) (aa5 (p:=fun _ =>True) s fun _ =>trivial)
  cases us with
  | nil =>cases hlen
  | cons u us =>
   obtain ⟨ρ1,a1,e1,s1⟩:=apK (Y:=fsS (pcS S.kt) l us++Y) (X:=X) hX (by
    rw [List.append_assoc]; exact s)
   have hX1:∀ ρ ρ',aay (n+1) ρ ρ'→(fun ρ =>dH S.kt ρ (chL S n (opF S.kt.vw n (.f f)).2)++X ρ) ρ=(fun ρ =>dH S.kt ρ (chL S n (opF S.kt.vw n (.f f)).2)++X ρ) ρ':=fun ρ ρ' h =>by
    show _++_=_++_
    rw [avP h,hX _ _ (h.le (Nat.le_succ n))]
   rw [List.append_assoc] at s1
   obtain ⟨ρ2,a2,e2,s2⟩:=ay6 (n:=n+1) (X:=fun ρ =>dH S.kt ρ (chL S n (opF S.kt.vw n (.f f)).2)++X ρ) hX1 s1
   have htop:=(aim (K:=S.kt) (n:=n) (f:=.f f) (Nat.zero_le _)).1
   refine ⟨ρ2,a1.trans a2 (Nat.le_succ n),?_,?_⟩
   ·simp only [opL,aag]
    rw [e1,← e2,abe a2 _ htop]
   ·simp only [opL,dHa]
    refine s2.perm (List.Perm.append_left _ ?_)
    rw [List.append_assoc]
    exact adl _ _ _
theorem axF {n:Nat} {f:Fl S.T S.M} {X:Env→List aad} (hX:∀ ρ ρ',aay n ρ ρ'→X ρ=X ρ'):∀ ρ ρ',aay (n+1) ρ ρ'→(fun ρ =>dH S.kt ρ (chL S n (opF S.kt.vw n (.f f)).2)++X ρ) ρ=(fun ρ =>dH S.kt ρ (chL S n (opF S.kt.vw n (.f f)).2)++X ρ) ρ':=fun ρ ρ' h =>by
 show _++_=_++_
 rw [avP h,hX _ _ (h.le (Nat.le_succ n))]
theorem aHu {n m:Nat} {l:List (Fl S.T S.M)} (hm:l.length=m) {X:Env→List aad} (hX:∀ ρ ρ',aay n ρ ρ'→X ρ=X ρ'):∀ ρ ρ',aay (n+m) ρ ρ'→(fun ρ =>dH S.kt ρ (opL S n l).2++X ρ) ρ=(fun ρ =>dH S.kt ρ (opL S n l).2++X ρ) ρ':=fun ρ ρ' h =>by
 subst hm
 show _++_=_++_
 rw [(al4 h).2,hX _ _ (h.le (Nat.le_add_right ..))]
theorem aiO {H H':S.kt.H} {s0:Sh} {v:V} {x:shT S.T S.M s0} (h:aAw S H s0 v=some (x,H')) {ρ:Env} {X:List aad} (s:Sat B w (dH S.kt ρ H++X)):Sat B w (pcS S.kt (vw1 S.T S.M s0 x) (aat ρ v)::(dH S.kt ρ H'++X)):=by
 unfold aAw at h
 split at h
 ·rename_i f H1 hf
  split at h
  ·rename_i y hy
   cases h
   rw [aAn _ _ hy]
   exact aqz _ _ _ _ _ hf ρ X B w s
  ·cases h
 ·cases h
end
section
variable {S:Shp} {B:Nat} {w:World} {ρ:Env}
theorem aEc {id c:Nat} {xs:List (S.T c)} {H:S.kt.H} (hg:get H id=some (.ro c xs)) {X:List aad} (s:Sat B w (dH S.kt ρ H++X)):Sat B w (pcS S.kt (.ro c xs) (aat ρ (.sl id))::(dH S.kt ρ H++X)):=by
 have hv:=ajl (K:=S.kt) s (.inr hg)
 obtain ⟨h0,H0,t0⟩:=s
 refine ⟨h0,H0,?_⟩
 obtain ⟨j1,j2,a1,e1,⟨_,m2⟩,mL⟩:=aaT (ρ:=ρ) hg h0 t0
 obtain ⟨p,hp,hΦ⟩:=m2
 have hpp:∀ b o x,p b o=some x→(∃ v,x=.look v)∧h0 b o=some x:=fun b o x hx =>⟨(hp b o x hx).1,by rw [e1]; unfold adf; rw [(hp b o x hx).2]⟩
 refine ⟨p,h0,fun b o =>?_,?_,aaB.2 (show pcW S.kt (obS S.kt) (rwS S.kt) (.ro c xs) (aat ρ (.sl id)) p from ⟨_,_,hv,p,fun b o x hx =>⟨(hpp b o x hx).1,hx⟩,hΦ⟩),t0⟩
 ·cases hpb:p b o with
  | none =>exact .inl rfl
  | some x =>
   obtain ⟨⟨v,rfl⟩,h2⟩:=hpp b o x hpb
   exact .inr (.inr ⟨v,rfl,h2⟩)
 ·funext b o
  unfold adf
  cases hpb:p b o with
  | none =>rfl
  | some x =>exact (hpp b o x hpb).2
theorem aAs {Z H H':S.kt.H} {s0:Sh} {v:V} {x:shT S.T S.M s0} (h:aIp S Z H s0 v=some (x,H')) {X:List aad} (s:Sat B w (dH S.kt ρ H++(dH S.kt ρ Z++X))):Sat B w (pcS S.kt (vw1 S.T S.M s0 x) (aat ρ v)::(dH S.kt ρ H'++(dH S.kt ρ Z++X))):=by
 unfold aIp at h
 split at h
 ·rename_i h1; cases h; exact aiO h1 s
 ·split at h
  ·rename_i y hy
   cases h
   cases s0 with
   | ro c =>
    cases v with
    | sl id =>
     have hy':(match get Z id with | some (.ro c' xs) =>anr c' c xs | _ =>none)=some x:=hy
     cases hg:get Z id with
     | none =>rw [hg] at hy'; exact absurd hy' (by simp)
     | some ch =>
      rw [hg] at hy'
      cases ch with
      | ro c' xs =>
       obtain ⟨e,h2⟩:=agH hy'
       subst e
       subst h2
       have s1:Sat B w (dH S.kt ρ Z++(dH S.kt ρ H++X)):=s.perm (adl _ _ _)
       exact (aEc hg s1).perm (List.Perm.cons _ (adl _ _ _))
      | _ =>exact absurd hy' (by simp)
    | _ =>exact (by have hy':(none:Option _)=some x:=hy; cases hy')
   | _ =>exact (by have hy':(none:Option _)=some x:=hy; cases hy')
  ·cases h
end
section
variable {K:KT} {B:Nat} {w:World} {ρ:Env}
theorem aB8 {H:KT.H K} {e j c:Nat} {i:Int} {xs:List (K.T c)} {X:List aad} (hel:get H e=some (.elt j i (K.sz c))) (hg:get H j=some (.row c xs)) (s:Sat B w (dH K ρ H++X)) :
  Sat B w (acI K ρ e (.cells ((K.vw c (atL (K.df c) xs i)).map .f))::acI K ρ j (.gap c xs i e)::(dH K ρ (del H j)++X)):=by
 obtain ⟨hi,b,o2,hA,hp⟩:=aup s hel
 obtain ⟨hn,vss,h2,h3,s2⟩:=aiU s hg
 rw [hn] at hi
 have hxi:=aeL (d:=K.df c) hi
 have hlt:i.toNat<vss.length:=by omega
 have hvs:vss[i.toNat]?=some vss[i.toNat]:=List.getElem?_eq_getElem hlt
 have hvl:=h3 _ (List.getElem_mem hlt)
 obtain ⟨hh,Hh,k1,k2,a,e1,⟨r1,r2,r3,r4⟩,hL⟩:=s2
 rcases r4 with ⟨r4,_⟩ | ⟨b',o',spare,hA',hsp,hpts⟩
 ·rw [r4] at hA; cases hA
 ·rw [hA] at hA'
  cases hA'
  obtain ⟨N,p1,p2⟩:=ahJ (pc:=pcS K) hxi hvs
  have hfl:=aeb h3
  have hlow:i.toNat*K.sz c+K.sz c≤vss.flatten.length:=by
   rw [hfl]
   have:(i.toNat+1)*K.sz c≤vss.length*K.sz c:=Nat.mul_le_mul_right _ hlt
   rw [Nat.add_mul] at this; omega
  have hmid:(vss.flatten.drop (i.toNat*K.sz c)).take (K.sz c)=vss[i.toNat]:=by
   apply List.ext_getElem?
   intro q
   by_cases hq:q<K.sz c
   ·rw [List.getElem?_take_of_lt hq,List.getElem?_drop]
    rw [akm h3 hvs (v:=(vss[i.toNat])[q]'(by omega)) (List.getElem?_eq_getElem _),List.getElem?_eq_getElem]
   ·rw [List.getElem?_eq_none (by rw [List.length_take,List.length_drop]; omega),List.getElem?_eq_none (by omega)]
  have e2:vss.flatten++spare=vss.flatten.take (i.toNat*K.sz c)++(vss[i.toNat]++(vss.flatten.drop (i.toNat*K.sz c+K.sz c)++spare)):=by
   rw [← hmid,← List.drop_drop,← List.append_assoc (List.take _ _),← List.append_assoc,List.append_assoc (List.take (i.toNat*K.sz c) _),List.take_append_drop,List.take_append_drop]
  have t1:Sat B w (pts b o2 (vss.flatten.take (i.toNat*K.sz c)++(vss[i.toNat]++(vss.flatten.drop (i.toNat*K.sz c+K.sz c)++spare)))::(abY K (pcS K) c xs vss++(dH K ρ (del H j)++X))):=by
   rw [← e2]; exact ⟨hh,Hh,k1,k2,a,e1,hpts,hL⟩
  have t2:=t1.imp amY
  have htl:(vss.flatten.take (i.toNat*K.sz c)).length=i.toNat*K.sz c:=by rw [List.length_take]; omega
  rw [htl] at t2
  have t3:=(t2.perm (List.Perm.swap ..)).imp amY
  rw [hvl] at t3
  have t4:Sat B w ((pts b (o2+i.toNat*K.sz c) vss[i.toNat]::fsS (pcS K) (K.vw c (atL (K.df c) xs i)) vss[i.toNat])++((pts b o2 (vss.flatten.take (i.toNat*K.sz c))::pts b (o2+i.toNat*K.sz c+K.sz c) (vss.flatten.drop (i.toNat*K.sz c+K.sz c)++spare)::N)++(dH K ρ (del H j)++X))):=by
   refine t3.perm ?_
   simp only [List.cons_append]
   refine List.Perm.cons _ ?_
   refine (List.Perm.swap ..).trans ?_
   refine List.Perm.trans ?_ (List.perm_middle).symm
   refine List.Perm.cons _ ?_
   refine List.Perm.trans ?_ (List.perm_middle).symm
   refine List.Perm.cons _ ?_
   exact (p1.append_right _).trans (by rw [List.append_assoc])
  have t5:Sat B w (acI K ρ e (.cells ((K.vw c (atL (K.df c) xs i)).map .f))::((pts b o2 (vss.flatten.take (i.toNat*K.sz c))::pts b (o2+i.toNat*K.sz c+K.sz c) (vss.flatten.drop (i.toNat*K.sz c+K.sz c)++spare)::N)++(dH K ρ (del H j)++X))):=by
   refine ahI (fun k hk =>⟨vss[i.toNat],?_⟩) t4
   show abC (pts (ρ.p e).1 (ρ.p e).2 vss[i.toNat]::fsS (fS K ρ) (List.map Fd.f (K.vw c (atL (K.df c) xs i))) vss[i.toNat]) k
   rw [hp,ap6 (pcS K) (fS K ρ) (fun x v =>rfl)]
   exact hk
  have t6:=t5.perm (List.perm_middle (l₁:=pts b o2 (vss.flatten.take (i.toNat*K.sz c))::pts b (o2+i.toNat*K.sz c+K.sz c) (vss.flatten.drop (i.toNat*K.sz c+K.sz c)++spare)::N) (l₂:=dH K ρ (del H j)++X)).symm
  have t7:Sat B w (acI K ρ j (.gap c xs i e)::(acI K ρ e (.cells ((K.vw c (atL (K.df c) xs i)).map .f))::(dH K ρ (del H j)++X))):=by
   refine ahI (fun k hk =>?_) t6
   exact ⟨b,o2,vss,spare,N,hi,⟨hA,hn,hp⟩,⟨by omega,h3⟩,⟨r2,r3,hsp⟩,fun x' vs' =>p2 x' vs',hk⟩
  exact t7.perm (List.Perm.swap ..)
theorem azy {H H1:KT.H K} {e j c:Nat} {i:Int} {xs:List (K.T c)} {fs:List (Fd K.T K.M)} {l:List (Fl K.T K.M)} {x:K.T c} {X:List aad} (hg:get H j=some (.gap c xs i e)) (he:get (del H j) e=some (.cells fs))
  (hl:auU K (asm K) (del (del H j) e) (K.vw c (K.df c)) fs=some (l,H1)) (hx:K.bk c l=some x) (s:Sat B w (dH K ρ H++X)) :
  Sat B w (acI K ρ e (.elt j i (K.sz c))::acI K ρ j (.row c (xs.set i.toNat x))::(dH K ρ H1++X)):=by
 have s0:=s.imp (aaT (ρ:=ρ) hg)
 have s1:Sat B w (dH K ρ (del H j)++(acI K ρ j (.gap c xs i e)::X)):=s0.perm (List.perm_middle (l₁:=dH K ρ (del H j))).symm
 obtain ⟨vs,s2⟩:=ahe (s1.imp (aaT (ρ:=ρ) he))
 have hlen:=ajm s2
 have s3:Sat B w (fsS (fS K ρ) fs vs++(dH K ρ (del (del H j) e)++(pts (ρ.p e).1 (ρ.p e).2 vs::acI K ρ j (.gap c xs i e)::X))):=s2.perm (aar fun f g h1 h2 h3 =>by simp only [h1,h2,h3]; omega)
 have s4:=aiN aqz hl s3
 have hv:(K.vw c x).length=vs.length:=by
  have e1:=K.bk_ok _ _ _ hx
  rw [e1]
  have:=ajm (A:=fun _ =>True) (aa5 s4 fun _ =>trivial)
  exact this
 rw [K.sz_ok] at hv
 rw [← K.bk_ok _ _ _ hx] at s4
 have s5:Sat B w (acI K ρ j (.gap c xs i e)::((pts (ρ.p e).1 (ρ.p e).2 vs::fsS (pcS K) (K.vw c x) vs)++(dH K ρ H1++X))):=s4.perm (aar fun f g h1 h2 h3 =>by simp only [h1,h2,h3]; omega)
 obtain ⟨h',Hh',j1,j2,a',e',⟨b,o,vss,spare,N,hi,⟨hA,hn,hq⟩,⟨hvl,hvz⟩,⟨hc1,hc2,hc3⟩,hperm,hst⟩,hL'⟩:=s5
 have s6:Sat B w ((pts b o (vss.flatten.take (i.toNat*K.sz c))::pts b (o+i.toNat*K.sz c+K.sz c) (vss.flatten.drop (i.toNat*K.sz c+K.sz c)++spare)::N)++((pts (ρ.p e).1 (ρ.p e).2 vs::fsS (pcS K) (K.vw c x) vs)++(dH K ρ H1++X))):=⟨h',Hh',aal.2 ⟨j1,j2,a',e',hst,hL'⟩⟩
 rw [hq] at s6
 have hlt:i.toNat<vss.length:=by omega
 have hvs:vss[i.toNat]?=some vss[i.toNat]:=List.getElem?_eq_getElem hlt
 have hfl:=aeb hvz
 have hlow:i.toNat*K.sz c+K.sz c≤vss.flatten.length:=by
  rw [hfl]
  have:(i.toNat+1)*K.sz c≤vss.length*K.sz c:=Nat.mul_le_mul_right _ hlt
  rw [Nat.add_mul] at this; omega
 have htl:(vss.flatten.take (i.toNat*K.sz c)).length=i.toNat*K.sz c:=by rw [List.length_take]; omega
 have s7:Sat B w (pts b (o+i.toNat*K.sz c) vs::pts b (o+i.toNat*K.sz c+K.sz c) (vss.flatten.drop (i.toNat*K.sz c+K.sz c)++spare)::(pts b o (vss.flatten.take (i.toNat*K.sz c))::(fsS (pcS K) (K.vw c x) vs++N)++(dH K ρ H1++X))):=s6.perm (aar fun f g h1 h2 h3 =>by simp only [h1,h2,h3]; omega)
 have s8:=s7.imp (amZ (by rw [← hv]))
 have s9:=(s8.perm (List.Perm.swap ..)).imp (amZ (by rw [htl]))
 have e2:vss.flatten.take (i.toNat*K.sz c)++(vs++(vss.flatten.drop (i.toNat*K.sz c+K.sz c)++spare))=(vss.set i.toNat vs).flatten++spare:=by
  have:=aiA (o:=0) (us:=vs) hvz hvs (by omega)
  have e3:(vss[i.toNat]).take 0++vs++(vss[i.toNat]).drop (0+vs.length)=vs:=by
   have:=hvz _ (List.getElem_mem hlt)
   rw [List.drop_eq_nil_of_le (by omega)]; simp
  rw [e3,Nat.add_zero,← hv] at this
  rw [this]; simp only [List.append_assoc]
 rw [e2] at s9
 have s10:Sat B w ((pts b o ((vss.set i.toNat vs).flatten++spare)::abY K (pcS K) c (xs.set i.toNat x) (vss.set i.toNat vs))++(dH K ρ H1++X)):=s9.perm (List.Perm.cons _ ((hperm x vs).symm.append_right _))
 have hz2:∀ v∈vss.set i.toNat vs,v.length=K.sz c:=fun v hv' =>by
  rcases List.mem_or_eq_of_mem_set hv' with e | e
  ·exact hvz v e
  ·rw [e,← hv]
 have s11:Sat B w (acI K ρ j (.row c (xs.set i.toNat x))::(dH K ρ H1++X)):=by
  refine ahI (fun k hk =>?_) s10
  obtain ⟨q1,q2,qa,qe,g1,g2⟩:=hk
  refine ⟨by rw [List.length_set]; exact hn,acL.2 ⟨vss.set i.toNat vs,q1,q2,qa,qe,⟨?_,?_,hc2,.inr ⟨b,o,spare,hA,?_,g1⟩⟩,g2⟩⟩
  ·rw [aeb hz2,List.length_set,List.length_set,hvl]
  ·rw [List.length_set]; exact hc1
  ·rw [List.length_set]; exact hc3
 refine aa5 s11 fun k =>?_
 show avX ρ e j (K.sz c) i
 exact ⟨⟨hi.1,by rw [hn]; exact hi.2⟩,b,o,hA,hq⟩
end
section
variable (K:KT)
def roF:Fl K.T K.M→Bool
 | .ro .. =>true
 | _ =>false
def aJA:Fl K.T K.M→Bool
 | .row .. =>true
 | _ =>false
def aBL (H:KT.H K) (id:Nat):Option (KT.H K) :=
 match get H id with
 | some (.elt j i sz) =>match get H j with
  | some (.row c xs) =>match Nat.beq sz (K.sz c) && ((K.vw c (K.df c)).any (aJA K) || (Nat.ble 2 sz && (K.vw c (K.df c)).any (roF K))) with
   | true =>some ((id,.cells ((K.vw c (atL (K.df c) xs i)).map .f))::(j,.gap c xs i id)::del (del H j) id)
   | false =>none
  | _ =>none
 | _ =>none
def aut (H:KT.H K) (j:Nat):Option (KT.H K) :=
 match get H j with
 | some (.gap c xs i e) =>match get (del H j) e with
  | some (.cells fs) =>match auU K (asm K) (del (del H j) e) (K.vw c (K.df c)) fs with
   | some (l,H1) =>match K.bk c l with
    | some x =>some ((e,.elt j i (K.sz c))::(j,.row c (xs.set i.toNat x))::H1)
    | none =>none
   | none =>none
  | _ =>none
 | _ =>none
def aE9:KT.H K→List Nat
 | [] =>[]
 | p::H =>match p.2 with
  | .gap .. =>p.1::aE9 H
  | _ =>aE9 H
def arl:List Nat→KT.H K→KT.H K
 | [],H =>H
 | j::l,H =>match aut K H j with
  | some H' =>arl l H'
  | none =>arl l H
def aIn (H:KT.H K):KT.H K:=arl K (aE9 K H) H
def aB7:KT.H K→List Nat
 | [] =>[]
 | p::H =>match p.2 with
  | .gap c .. =>match (K.ls 3 c).isSome || (K.ls 1 c).isSome with
   | true =>aB7 H
   | false =>p.1::aB7 H
  | _ =>aB7 H
def aJG (H:KT.H K):KT.H K:=arl K (aB7 K H) H
def ay1 (H:KT.H K) (v:V):Option (KT.H K) :=
 match v with
 | .ptr id _ =>match aBL K H id with
  | some H1 =>some H1
  | none =>match get H id with
   | some (.elt j _ _) =>match aut K H j with
    | some H1 =>aBL K H1 id
    | none =>none
   | _ =>none
 | _ =>none
end
section
variable {K:KT} {B:Nat} {w:World} {ρ:Env} {X:List aad}
theorem awI {H H':KT.H K} {id:Nat} (h:aBL K H id=some H') (s:Sat B w (dH K ρ H++X)):Sat B w (dH K ρ H'++X):=by
 unfold aBL at h
 split at h
 ·rename_i j i sz hel
  split at h
  ·rename_i c xs hg
   split at h
   ·rename_i hB
    cases h
    simp only [Bool.and_eq_true] at hB
    obtain rfl:=Nat.eq_of_beq_eq_true hB.1
    have s1:=aB8 hel hg s
    have s2:Sat B w (dH K ρ (del H j)++(acI K ρ id (.cells ((K.vw c (atL (K.df c) xs i)).map .f))::acI K ρ j (.gap c xs i id)::X)):=s1.perm (aar fun f g h1 h2 h3 =>by simp only [h1,h2,h3]; omega)
    have s3:=s2.imp (asG (id:=id))
    exact s3.perm (aar fun f g h1 h2 h3 =>by simp only [dH,List.map_cons,h1,h2,h3]; omega)
   ·cases h
  ·cases h
 ·cases h
theorem aqm {H H':KT.H K} {j:Nat} (h:aut K H j=some H') (s:Sat B w (dH K ρ H++X)):Sat B w (dH K ρ H'++X):=by
 unfold aut at h
 split at h
 ·rename_i c xs i e hg
  split at h
  ·rename_i fs he
   split at h
   ·rename_i l H1 hl
    split at h
    ·rename_i x hx
     cases h
     exact azy hg he hl hx s
    ·cases h
   ·cases h
  ·cases h
 ·cases h
theorem amv:∀ {l:List Nat} {H:KT.H K},Sat B w (dH K ρ H++X)→Sat B w (dH K ρ (arl K l H)++X)
 | [],_,s =>s
 | j::l,H,s =>by
  unfold arl
  split
  ·rename_i H' h; exact amv (aqm h s)
  ·exact amv s
theorem ar8 {H H':KT.H K} {v:V} (h:ay1 K H v=some H') (s:Sat B w (dH K ρ H++X)):Sat B w (dH K ρ H'++X):=by
 unfold ay1 at h
 split at h
 ·split at h
  ·rename_i h1; cases h; exact awI h1 s
  ·split at h
   ·split at h
    ·rename_i h1; exact awI h (aqm h1 s)
    ·cases h
   ·cases h
 ·cases h
theorem asO {H:KT.H K} (s:Sat B w (dH K ρ H++X)):Sat B w (dH K ρ (aIn K H)++X):=amv s
theorem aFE {H:KT.H K} (s:Sat B w (dH K ρ H++X)):Sat B w (dH K ρ (aJG K H)++X):=amv s
end
end
end Go.Proofs.YtdnimkpfgjcjeaaGreat
