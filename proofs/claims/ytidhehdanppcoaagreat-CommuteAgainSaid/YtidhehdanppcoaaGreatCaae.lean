/- Evaluation by itself: slices that grow by a list; empty ones. No program occurs here. Evaluation by itself: slices whose cells are known one by one. No program occurs here. Evaluation by itself: kinds by their shapes. No program occurs here. Evaluation by itself: data from values,values from data. No program occurs here. Evaluation by itself: an element of a row,taken out of it. No program occurs here. -/
import Derived.Test.YtidhehdanppcoaaGreatCaad
import Derived.Test.YtidhehdanppcoaaGreatCaab
import Derived.Test.YtidhehdanppcoaaGreatCaac
set_option linter.all false
namespace Go.Proofs.YtidhehdanppcoaaGreat
section
open Go Go.RowKit
section
variable (K:KT)
def aEH (H:KT.H K):V→Option ((c:Nat)×List (K.T c))
 | .sl id =>match get H id with
  | some (.ro c ys) =>some ⟨c,ys⟩
  | some (.row c ys) =>some ⟨c,ys⟩
  | _ =>none
 | _ =>none
def aKn (P:Program) (R:aaZ) (n:Nat) (Z H:KT.H K) (T T':TypeId) (x y:V):Option (List Gd×Nat×KT.H K×V) :=
 match Nat.beq T T' with
 | true =>match ahD P T with
  | some E =>match P.info? E with
   | some inf =>match ayS K H E x with
    | some ⟨c,xs,H1⟩ =>match aEH K (H1++Z) y with
     | some ⟨c',ys'⟩ =>match am8 c' c ys' with
      | some ys =>match K.pl c && Nat.beq inf.size (K.sz c) && aG1 inf.zero (K.sz c) && Nat.blt 0 (K.sz c) && Nat.ble inf.bytes 140 && abW K R n Z H && Nat.ble (afl H1) n with
       | true =>some ([⟨(((xs.length+ys.length:Nat)):Int)<1000000000000,inferInstance⟩],n+1,(n,.row c (xs++ys))::H1,.sl n)
       | false =>none
      | none =>none
     | none =>none
    | none =>none
   | none =>none
  | none =>none
 | false =>none
def aKj (P:Program) (R:aaZ) (n:Nat) (Z H:KT.H K) (T:TypeId) (m:Nat) (parts:List (Nat×Operand)):Option (Nat×KT.H K×V) :=
 match m with
 | 0 =>match parts with
  | [] =>match ahD P T with
   | some E =>match P.info? E with
    | some _ =>match K.tk E with
     | some c =>match abW K R n Z H with
      | true =>some (n+1,(n,.row c [])::H,.sl n)
      | false =>none
     | none =>none
    | none =>none
   | none =>none
  | _::_ =>none
 | _+1 =>none
def elK (T E:TypeId):Nat→Option Nat
 | 0 =>K.tk E
 | 1 =>K.tk E
 | _+2 =>match K.tk (T+1000000) with
  | some c =>some c
  | none =>K.tk E
def aKg (P:Program) (R:aaZ) (n:Nat) (Z H:KT.H K) (T:TypeId) (m:Nat) (parts:List (Nat×Operand)):Option (Nat×KT.H K×V) :=
 match ahD P T with
 | some E =>match elK K T E m with
  | some c =>match aJr K P R H T m parts with
   | some (sz,l) =>match Nat.beq sz (K.sz c) && abW K R n Z H with
    | true =>match aAW K c m H l with
     | some (ys,H2) =>match Nat.ble (afl H2) n with
      | true =>some (n+1,(n,.row c ys)::H2,.sl n)
      | false =>none
     | none =>none
    | false =>none
   | none =>none
  | none =>none
 | none =>none
def aKd (P:Program) (R:aaZ) (n:Nat) (Z H:KT.H K) (T:TypeId) (x y:V):Option (List Gd×Nat×KT.H K×V) :=
 match ahD P T with
 | some E =>match K.tk E with
  | some c =>match aj3 x with
   | some (_,a,_) =>match aj3 y with
    | some (_,b,_) =>match aIu P E with
     | some k =>match P.info? E with
      | some inf =>match inf.zero with
       | some (.int k' 0) =>match K.bk c [.i k 0] with
        | some x0 =>match aro k k' && Nat.beq inf.size 1 && Nat.beq (K.sz c) 1 && Nat.ble inf.bytes 128 && abW K R n Z H with
         | true =>some ([⟨a=b,inferInstance⟩,⟨0≤a∧a≤1099511627776,inferInstance⟩],n+1,(n,.row c (List.replicate a.toNat x0))::H,.sl n)
         | false =>none
        | none =>none
       | _ =>none
      | none =>none
     | none =>match P.info? E with
       | some inf =>match inf.zero with
        | some (.slice none 0 0) =>match K.bk c [.row 3 []] with
         | some x0 =>match Nat.beq inf.size 1 && Nat.beq (K.sz c) 1 && Nat.ble inf.bytes 128 && abW K R n Z H with
          | true =>some ([⟨a=b,inferInstance⟩,⟨0≤a∧a≤1099511627776,inferInstance⟩],n+1,(n,.row c (List.replicate a.toNat x0))::H,.sl n)
          | false =>none
         | none =>none
        | some (.bool false) =>match K.bk c [.b false] with
         | some x0 =>match Nat.beq inf.size 1 && Nat.beq (K.sz c) 1 && Nat.ble inf.bytes 128 && abW K R n Z H with
          | true =>some ([⟨a=b,inferInstance⟩,⟨0≤a∧a≤1099511627776,inferInstance⟩],n+1,(n,.row c (List.replicate a.toNat x0))::H,.sl n)
          | false =>none
         | none =>none
        | _ =>none
       | none =>none
    | none =>none
   | none =>none
  | none =>none
 | none =>none
def aKm (P:Program) (R:aaZ) (n:Nat) (Z H:KT.H K) (T T':TypeId) (x y:V):Option (List Gd×Nat×KT.H K×V) :=
 match Nat.beq T T' with
 | true =>match ahD P T with
  | some E =>match P.info? E with
   | some inf =>match ayS K H E x with
    | some ⟨c,xs,H1⟩ =>match y with
     | .sl id2 =>match get H1 id2 with
      | some (.row c' ys') =>match am8 c' c ys' with
       | some ys =>match Nat.beq inf.size (K.sz c) && aG1 inf.zero (K.sz c) && Nat.blt 0 (K.sz c) && Nat.ble inf.bytes 200 && abW K R n Z H && Nat.ble (afl (del H1 id2)) n with
        | true =>some ([⟨(((xs.length+ys.length:Nat)):Int)<100000000000,inferInstance⟩],n+1,(n,.row c (xs++ys))::del H1 id2,.sl n)
        | false =>none
       | none =>none
      | _ =>none
     | _ =>none
    | none =>none
   | none =>none
  | none =>none
 | false =>none
end
section
variable {K:KT} {P:Program} {nt n B:Nat} {W:World} {R:aaZ} {Z H:KT.H K} {nx:Nat→KT.H K→V→Prop}
theorem aEx {o:Oper} {T:TypeId} {m:Nat} {parts:Array (Nat×Operand)} {n':Nat} {H':KT.H K} {v:V} (ho:o.op=.buildSlice T m parts) (h:aKg K P R n Z H T m parts.toList=some (n',H',v)) (hn:nx n' H' v):aeo K P nt B W o R n Z H nx:=fun F ρ a w s =>by
 obtain ⟨d,op,ty,ps,af,g⟩:=o
 simp only at ho
 subst ho
 unfold aKg at h
 split at h
 ·rename_i E0 hE
  split at h
  ·rename_i c hc
   ·split at h
    ·rename_i sz l hb
     split at h
     ·rename_i hB
      split at h
      ·rename_i ys H2 hel
       split at h
       ·rename_i hB2
        cases h
        simp only [Bool.and_eq_true,abW] at hB
        obtain ⟨b0,⟨⟨b1,b2⟩,b3⟩⟩:=hB
        obtain rfl:=Nat.eq_of_beq_eq_true b0
        have b2':=Nat.le_of_ble_eq_true b2
        have hB2':=Nat.le_of_ble_eq_true hB2
        obtain ⟨E,hl,hm,hr⟩:=aAa s.sat s.regs hb
        have:(execOp a.eval ⟨d,.buildSlice T m parts,ty,ps,af,g⟩).run P w=.ok (.value (.slice (some ⟨w.heap.size,0,none⟩) m m)) (w.alloc (.cells (aag ρ l).toArray E)):=by
         simp only [execOp]
         rw [aaa hr]; rfl
        rw [this]
        have ha:=acj ρ n ⟨some ⟨w.heap.size,0,none⟩,m,m⟩
        refine ⟨⟨ρ.setS n ⟨some ⟨w.heap.size,0,none⟩,m,m⟩,n+1,_,.sl n⟩,by simp [aau,Env.setS],⟨ha,Nat.le_succ _,(abU ha R (Nat.le_of_ble_eq_true b1)).symm,hn⟩,aey s.below s.lo _,by simpa using Nat.le_succ_of_le s.lo,?_⟩
        have s1:=s.sat.fresh (cs:=(aag ρ l).toArray) (T:=E) s.lo
        have s2:Sat B (w.alloc (.cells (aag ρ l).toArray E)) (dH K ρ H++(pts w.heap.size 0 (aag ρ l)::tl K Z F ρ)):=s1.perm (List.perm_middle (l₁:=dH K ρ H)).symm
        obtain ⟨vss,e1,e2,e3,e4,s3⟩:=asG hel s2
        have s4:Sat B (w.alloc (.cells (aag ρ l).toArray E)) ((pts w.heap.size 0 (aag ρ l)::act K (pcS K) c ys vss)++(dH K ρ H2++tl K Z F ρ)):=s3.perm ((List.Perm.append_left _ (List.perm_middle (l₁:=dH K ρ H2))).trans (List.perm_middle (l₁:=act K (pcS K) c ys vss)))
        refine s4.imp fun h hk =>?_
        obtain ⟨j1,j2,a'',e'',q1,q2⟩:=aal.1 hk
        refine ⟨j1,j2,a'',e'',⟨by simp [Env.setS,e4],adl.2 ⟨vss,aaL (fun k hp =>?_) q1⟩⟩,?_⟩
        ·rw [← e1,e4]
         simp only [Env.setS,if_true]
         exact ao3 (by rw [aaR,List.length_map]; exact hl) hm k hp
        ·rw [ab3 ha H2 hB2',acT b2' ha] at q2; exact q2
       ·cases h
      ·cases h
     ·cases h
    ·cases h
  ·cases h
 ·cases h
theorem aEz {o:Oper} {T:TypeId} {m:Nat} {parts:Array (Nat×Operand)} {n':Nat} {H':KT.H K} {v:V} (ho:o.op=.buildSlice T m parts) (h:aKj K P R n Z H T m parts.toList=some (n',H',v)) (hn:nx n' H' v):aeo K P nt B W o R n Z H nx:=fun F ρ a w s =>by
 obtain ⟨d,op,ty,ps,af,g⟩:=o
 simp only at ho
 subst ho
 unfold aKj at h
 split at h
 ·split at h
  ·rename_i hp
   split at h
   ·rename_i E hE
    split at h
    ·rename_i inf hi
     split at h
     ·rename_i c hc
      split at h
      ·rename_i hB
       cases h
       simp only [Bool.and_eq_true,abW] at hB
       obtain ⟨⟨b1,b2⟩,b3⟩:=hB
       have b2':=Nat.le_of_ble_eq_true b2
       have hU:=acb hE
       obtain rfl:parts=#[]:=by apply Array.ext'; simpa using hp
       have hr:(Instr.buildSlice T 0 (#[].map fun (i,x) =>(i,a.eval x))).run P w=.ok (.slice (some ⟨w.heap.size,0,none⟩) 0 0) (w.alloc (.cells #[] E)):=by
        unfold Instr.buildSlice
        rw [aaa (aco hU)]
        simp only
        have h1:(sizeOf E).run P w=.ok inf.size w:=by unfold sizeOf; rw [aaa (acq hi)]; rfl
        rw [aaa h1]
        rw [if_neg (by omega)]
        simp only [Nat.zero_mul,if_true]
        show (Sem.run P _ w)=_
        simp only [pure_bind]
        simp [Instr.fill,newRow,newObj,Sem.run,World.alloc_eq]
        congr 2
        apply Array.ext'
        simp
       have:(execOp a.eval ⟨d,.buildSlice T 0 #[],ty,ps,af,g⟩).run P w=.ok (.value (.slice (some ⟨w.heap.size,0,none⟩) 0 0)) (w.alloc (.cells #[] E)):=by
        simp only [execOp]
        rw [aaa hr]; rfl
       rw [this]
       have ha:=acj ρ n ⟨some ⟨w.heap.size,0,none⟩,0,0⟩
       refine ⟨⟨ρ.setS n ⟨some ⟨w.heap.size,0,none⟩,0,0⟩,n+1,_,.sl n⟩,by simp [aau,Env.setS],⟨ha,Nat.le_succ _,(abU ha R (Nat.le_of_ble_eq_true b1)).symm,hn⟩,aey s.below s.lo _,by simpa using Nat.le_succ_of_le s.lo,?_⟩
       have s1:=s.sat.fresh (cs:=#[]) (T:=E) s.lo
       refine s1.imp fun h hk =>?_
       obtain ⟨k1,k2,a',e',hp,hq⟩:=hk
       refine ⟨k1,k2,a',e',⟨by simp [Env.setS],adl.2 ⟨[],k1,fun _ _ =>none,fun _ _ =>.inr (.inl rfl),?_,?_,trivial⟩⟩,?_⟩
       ·funext x y
        unfold ac7
        cases k1 x y<;>rfl
       ·refine ⟨by simp,by simp [Env.setS],by simp [Env.setS,maxLen],.inr ⟨w.heap.size,0,[],by simp [Env.setS],by simp [Env.setS],by simpa using hp⟩⟩
       ·rw [dS,ab3 ha H (Nat.le_of_ble_eq_true b3),acT b2' ha] at hq
        exact hq
      ·cases h
     ·cases h
    ·cases h
   ·cases h
  ·cases h
 ·cases h
theorem aq3 {A A2:Option Addr} {m cap sz k c by_ ty:Nat} {T:TypeId} {vs us:List Value} {E:TypeId} {z:Value} {L:List aad} {w:World} (hT:P.underlying T=some (.slice E)) (hI:aCG P E z sz by_) (hz:z.cells.size=sz) (hsz:0<sz)
  (hsrc:k=0∨∃ b o,A2=some ⟨b,o,none⟩∧∀ j u,us[j]?=some u→w.cell? ⟨b,o+j,none⟩=some u)
  (s:Sat B w (ae5 A m cap sz vs::L)) (hb:Below B W w) (hl:B≤w.heap.size) (hu:us.length=k*sz) (ha:us.all adw=true) (hlen:m+k≤maxLen) (hby:(m+k)*by_≤140737488355328) :
  ∃ A' cap' w',(Builtin.append_ #[T,T] ty #[.slice A m cap,.slice A2 k c]).run P w=.ok (.slice A' (m+k) cap') w'∧Cls B W (ae5 A' (m+k) cap' sz (vs++us)::L) w':=by
 rcases Nat.eq_zero_or_pos k with hk | hk
 ·subst hk
  have hu0:us=[]:=List.length_eq_zero_iff.1 (by rw [hu]; simp)
  subst hu0
  obtain ⟨r1,r2,r3,r4⟩:=afo s (List.mem_cons_self ..)
  refine ⟨A,cap,w,?_,hb,hl,by simpa using s⟩
  obtain ⟨i,hi,hz1,rfl,rfl⟩:=hI
  have h0:(Builtin.firstCells i.size 0 (.slice A2 0 c)).run P w=.ok #[] w:=by cases A2<;>simp [Builtin.firstCells,loadCells,loadCellsFrom]
  cases A with
  | none =>simp [Builtin.append_,aco hT,sizeOf,acq hi,Builtin.lenOf,h0,r2]
  | some a =>simp [Builtin.append_,aco hT,sizeOf,acq hi,Builtin.lenOf,h0,r2,storeCells]
 ·rcases hsrc with h0 | ⟨b,o,rfl,hc⟩
  ·omega
  ·exact ax8 (ty:=ty) (c:=c) (W:=W) (b:=b) (o:=o) hT hI hz hsz hc s hb hl hu ha hk hlen hby
theorem aje:∀ {l:List (Fl K.T K.M)},ajf l=true→(l.map flV).all adw=true
 | [],_ =>rfl
 | f::l,h =>by
  cases f<;>simp only [ajf,Bool.false_eq_true] at h
  ·rw [List.map_cons,List.all_cons,aje h]; rfl
  ·rw [List.map_cons,List.all_cons,aje h]; rfl
theorem amO:∀ {l:List (Fl K.T K.M)} {L:List aad} {B:Nat} {w:World},ajf l=true→Sat B w L→Sat B w (fsS (pcS K) l (l.map flV)++L)
 | [],_,_,_,_,s =>s
 | f::l,L,B,w,h,s =>by
  cases f<;>simp only [ajf,Bool.false_eq_true] at h
  ·exact abj (p:=pcS K _ _) (amO h s) fun k =>aaI.2 rfl
  ·exact abj (p:=pcS K _ _) (amO h s) fun k =>aaI.2 rfl
theorem ath {c:Nat} (hc:K.pl c=true) {L:List aad} {B:Nat} {w:World} (s:Sat B w L):∀ {ys:List (K.T c)},Sat B w (act K (pcS K) c ys (ys.map (ae4 K c))++L)
 | [] =>s
 | y::ys =>by
  show Sat B w ((fsS (pcS K) (K.vw c y) ((K.vw c y).map flV)++act K (pcS K) c ys (ys.map (ae4 K c)))++L)
  rw [List.append_assoc]
  exact amO (K.pl_ok c hc y) (ath hc s)
theorem aw9 {α:Type} {enc:α→List Value} {sz:Nat} (henc:∀ x,(enc x).length=sz):∀ {xs:List α} {j:Nat} {u:Value},(xs.flatMap enc)[j]?=some u→∃ i q x,xs[i]?=some x∧(enc x)[q]?=some u∧j=i*sz+q
 | [],j,u,h =>by cases h
 | x::xs,j,u,h =>by
  rw [List.flatMap_cons] at h
  by_cases hj:j<sz
  ·rw [List.getElem?_append_left (by rw [henc]; exact hj)] at h
   exact ⟨0,j,x,rfl,h,by omega⟩
  ·rw [List.getElem?_append_right (by rw [henc]; omega),henc] at h
   obtain ⟨i,q,y,h1,h2,h3⟩:=aw9 henc h
   exact ⟨i+1,q,y,by simpa using h1,h2,by rw [Nat.add_mul]; omega⟩
theorem aBG {H:KT.H K} {y:V} {c:Nat} {ys:List (K.T c)} (h:aEH K H y=some ⟨c,ys⟩) (hc:K.pl c=true) (hz:0<K.sz c) {ρ:Env} {B:Nat} {w:World} {X:List aad} (s:Sat B w (dH K ρ H++X)) :
  ∃ A cap,aau ρ y=.slice A ys.length cap∧(ys.length=0∨∃ b o,A=some ⟨b,o,none⟩∧∀ j u,(ys.flatMap (ae4 K c))[j]?=some u→w.cell? ⟨b,o+j,none⟩=some u):=by
 have hsl:∀ {A:Option Addr} {B':Nat},Sl (ae4 K c) (K.sz c) w B' A ys→(ys.length=0∨∃ b o,A=some ⟨b,o,none⟩∧∀ j u,(ys.flatMap (ae4 K c))[j]?=some u→w.cell? ⟨b,o+j,none⟩=some u):=fun {A B'} hS =>by
  rcases Nat.eq_zero_or_pos ys.length with e | e
  ·exact .inl e
  ·obtain ⟨b,o,hA,_,hcell⟩:=hS.2 (fun e' =>by subst e'; simp at e)
   refine .inr ⟨b,o,hA,fun j u hj =>?_⟩
   obtain ⟨i,q,x,hx,hq,rfl⟩:=aw9 (fun x =>by unfold ae4; rw [List.length_map,K.sz_ok]) hj
   rw [← Nat.add_assoc]; exact hcell i x hx q u hq
 unfold aEH at h
 split at h
 ·rename_i id
  split at h
  ·rename_i c' ys' hg
   cases h
   refine ⟨_,_,ai9 s (.inr hg),?_⟩
   have s2:=ao4 hg s
   exact hsl (auU s2 (List.mem_cons_self ..)).1
  ·rename_i c' ys' hg
   cases h
   refine ⟨_,_,ai9 s (.inl hg),?_⟩
   obtain ⟨hh,Hh,k1,k2,a,e,⟨h1,h2⟩,hL⟩:=s.imp (aaO (ρ:=ρ) hg)
   have s2:Sat B w (rwS K c ys (ρ.s id).a (ρ.s id).c::(dH K ρ (del H id)++X)):=⟨hh,Hh,k1,k2,a,e,h2,hL⟩
   exact hsl (auU (ayR hc hz s2) (List.mem_cons_self ..)).1
  ·cases h
 ·cases h
theorem aEC {o:Oper} {T T':TypeId} {x y:Operand} {u v:V} {gs:List Gd} {n':Nat} {H':KT.H K} {r:V} (ho:o.op=.call ⟨.builtin .append,#[x,y],#[T,T']⟩) (hx:evO R x=some u) (hy:evO R y=some v) (h:aKn K P R n Z H T T' u v=some (gs,n',H',r)) (hg:∀ g∈gs,g.P) (hn:nx n' H' r) :
  aeo K P nt B W o R n Z H nx:=fun F ρ a w s =>by
 obtain ⟨d,op,ty,ps,af,g⟩:=o
 simp only at ho
 subst ho
 have ex:=(aaH (ρ:=ρ) hx).eval s.regs
 have ey:=(aaH (ρ:=ρ) hy).eval s.regs
 unfold aKn at h
 split at h
 ·rename_i hT
  obtain rfl:=Nat.eq_of_beq_eq_true hT
  split at h
  ·rename_i E hE
   split at h
   ·rename_i inf hi
    split at h
    ·rename_i c xs H1 hr
     split at h
     ·rename_i c' ys' hs
      split at h
      ·rename_i ys hy2
       split at h
       ·rename_i hB
        cases h
        obtain ⟨rfl,rfl⟩:=ago hy2
        simp only [Bool.and_eq_true,abW] at hB
        obtain ⟨⟨⟨⟨⟨⟨b0,b1⟩,b2⟩,b4⟩,b5⟩,⟨⟨b7,b8⟩,b9⟩⟩,bt⟩:=hB
        have b1':=Nat.eq_of_beq_eq_true b1
        obtain ⟨z,hz,hzsz⟩:=aq8 b2
        have b4':0<K.sz c':=Nat.le_of_ble_eq_true b4
        have b5':=Nat.le_of_ble_eq_true b5
        have b8':=Nat.le_of_ble_eq_true b8
        have bt':=Nat.le_of_ble_eq_true bt
        have hguard:(((xs.length+ys.length:Nat)):Int)<1000000000000:=hg _ (List.mem_singleton.2 rfl)
        obtain ⟨A,cap,hdx,htop,vss,h2,h3,s2⟩:=arq hr s.sat
        have s3:Sat B w (dH K ρ (H1++Z)++([F]++(ae5 A xs.length cap (K.sz c') vss.flatten::act K (pcS K) c' xs vss))):=s2.perm (by
         have e:dH K ρ (H1++Z)=dH K ρ H1++dH K ρ Z:=by simp [dH]
         rw [e,tl]
         refine List.Perm.symm ?_
         rw [← List.append_assoc (dH K ρ H1++dH K ρ Z),List.append_assoc (dH K ρ H1)]
         exact List.perm_append_comm.trans (by rw [List.cons_append]))
        obtain ⟨A2,cap2,hdy,hcells⟩:=aBG hs b0 b4' s3
        have hby:(xs.length+ys.length)*inf.bytes≤140737488355328:=by
         have h1:xs.length+ys.length≤1000000000000:=by omega
         have h2:(xs.length+ys.length)*inf.bytes≤1000000000000*140:=Nat.mul_le_mul h1 b5'
         omega
        have hul:(ys.flatMap (ae4 K c')).length=ys.length*K.sz c':=by
         rw [List.flatMap_def,ajz (sz:=K.sz c') fun v hv =>by
          obtain ⟨x,_,rfl⟩:=List.mem_map.1 hv
          unfold ae4; rw [List.length_map,K.sz_ok]]
         rw [List.length_map]
        have hsc:(ys.flatMap (ae4 K c')).all adw=true:=by
         rw [List.all_eq_true]
         intro q hq
         obtain ⟨x,_,hx⟩:=List.mem_flatMap.1 hq
         exact List.all_eq_true.1 (aje (K.pl_ok c' b0 x)) q hx
        obtain ⟨A',cap',w',hrun,c1,c2,c3⟩:=aq3 (ty:=ty) (W:=W) (c:=cap2) (acb hE) ⟨inf,hi,hz,b1',rfl⟩ hzsz b4' hcells s2 s.below s.lo hul hsc (by unfold maxLen; omega) hby
        have:(execOp a.eval ⟨d,.call ⟨.builtin .append,#[x,y],#[T,T]⟩,ty,ps,af,g⟩).run P w=.ok (.value (.slice A' (xs.length+ys.length) cap')) w':=by
         simp only [execOp,resolve,List.map_toArray,List.map_cons,List.map_nil,ex,ey,hdx,hdy]
         simp only [invoke,builtin]
         simp [hrun]
        rw [this]
        have ha:=acj ρ n ⟨A',xs.length+ys.length,cap'⟩
        refine ⟨⟨ρ.setS n ⟨A',xs.length+ys.length,cap'⟩,n+1,_,.sl n⟩,by simp [aau,Env.setS],⟨ha,Nat.le_succ _,(abU ha R (Nat.le_of_ble_eq_true b7)).symm,hn⟩,c1,c2,?_⟩
        have c4:=ath b0 c3 (ys:=ys)
        refine c4.imp fun k hk =>?_
        have g5:abY ((ae5 A' (xs++ys).length cap' (K.sz c') (vss++ys.map (ae4 K c')).flatten::act K (pcS K) c' (xs++ys) (vss++ys.map (ae4 K c')))++(dH K ρ H1++tl K Z F ρ)) k:=by
         rw [aoi h2,List.length_append,List.flatten_append,← List.flatMap_def]
         refine abV ?_ hk
         refine (List.perm_middle (l₁:=act K (pcS K) c' ys (ys.map (ae4 K c')))).trans (List.Perm.cons _ ?_)
         exact (ac6 _ _ _).trans (by rw [← List.append_assoc]; exact List.Perm.refl _)
        obtain ⟨j1,j2,a'',e'',q1,q2⟩:=aal.1 g5
        refine ⟨j1,j2,a'',e'',⟨by simp [Env.setS],adl.2 ⟨vss++ys.map (ae4 K c'),?_⟩⟩,?_⟩
        ·simpa [Env.setS] using q1
        ·rw [ab3 ha H1 bt',acT b8' ha] at q2; exact q2
       ·cases h
      ·cases h
     ·cases h
    ·cases h
   ·cases h
  ·cases h
 ·cases h
theorem awq {c:Nat} {x0:K.T c} {f:Fl K.T K.M} {z:Value} (hv:K.vw c x0=[f]) (hf:∀ h,pcS K f z h) {L:List aad} {B:Nat} {w:World} (s:Sat B w L):∀ m:Nat,Sat B w (act K (pcS K) c (List.replicate m x0) (List.replicate m [z])++L)
 | 0 =>s
 | m+1 =>by
  rw [List.replicate_succ,List.replicate_succ]
  simp only [act,hv,fsS,List.cons_append,List.nil_append]
  exact abj (p:=pcS K f z) (awq hv hf s m) hf
theorem aFJ {d:Option Tmp} {ty:TypeId} {ps:String} {af:Array Edge} {g:Option (Nat×Bool)} {T E:TypeId} {x y:Operand} {u v:V} {k1 k2:IntKind} {aa:Int} {l1 l2:Bool} {inf:TypeInfo} {z:Value} {c:Nat} {x0:K.T c} {f:Fl K.T K.M} (hx:evO R x=some u) (hy:evO R y=some v) (hE:ahD P T=some E) (hu:aj3 u=some (k1,aa,l1)) (hv:aj3 v=some (k2,aa,l2)) (hi:P.info? E=some inf) (hz:inf.zero=some z) (hzc:z.cells=#[z]) (b1':inf.size=1) (b2':K.sz c=1) (b3':inf.bytes≤128) (hfr:abW K R n Z H=true) (g1:0≤aa) (g2:aa≤1099511627776) (hvw:K.vw c x0=[f]) (hf:∀ h,pcS K f z h) (hn:nx (n+1) ((n,.row c (List.replicate aa.toNat x0))::H) (.sl n)) :
  aeo K P nt B W ⟨d,.makeSlice T x y,ty,ps,af,g⟩ R n Z H nx:=fun F ρ a w s =>by
 simp only [Bool.and_eq_true,abW] at hfr
 obtain ⟨⟨b7,b8⟩,b9⟩:=hfr
 have b8':=Nat.le_of_ble_eq_true b8
 have hot:=aFs (L:=dS K ρ Z H F) (W:=W) (B:=B) (n:=nt) (d:=d) (ty:=ty) (ps:=ps) (af:=af) (g:=g) (ab9 (ρ:=ρ) hx hu) (ab9 (ρ:=ρ) hy hv) (acb hE) ⟨inf,hi,hz,b1',rfl⟩ hzc g1 g2 b3' a w s
 revert hot
 generalize (execOp a.eval ⟨d,.makeSlice T x y,ty,ps,af,g⟩).run P w=res
 intro hot
 have fin:∀ (b:Nat) (w':World),Cls B W (pts b 0 (List.replicate aa.toNat z)::dS K ρ Z H F) w'→∃ ρ',aay n ρ ρ'∧aau ρ' (.sl n)=.slice (some ⟨b,0,none⟩) aa.toNat aa.toNat∧Cls B W (dS K ρ' Z ((n,.row c (List.replicate aa.toNat x0))::H) F) w':=by
  intro b w' hw'
  have ha:=acj ρ n ⟨some ⟨b,0,none⟩,aa.toNat,aa.toNat⟩
  refine ⟨ρ.setS n ⟨some ⟨b,0,none⟩,aa.toNat,aa.toNat⟩,ha,by simp [aau,Env.setS],hw'.1,hw'.2.1,?_⟩
  have s1:=awq hvw hf hw'.2.2 aa.toNat
  have s2:Sat B w' ((pts b 0 (List.replicate aa.toNat z)::act K (pcS K) c (List.replicate aa.toNat x0) (List.replicate aa.toNat [z]))++dS K ρ Z H F):=s1.perm (List.perm_middle (l₁:=act K (pcS K) c (List.replicate aa.toNat x0) (List.replicate aa.toNat [z])))
  refine s2.imp fun h hk =>?_
  obtain ⟨j1,j2,a'',e'',q1,q2⟩:=aal.1 hk
  refine ⟨j1,j2,a'',e'',⟨by simp [Env.setS],adl.2 ⟨List.replicate aa.toNat [z],aaL (fun q hp =>?_) q1⟩⟩,?_⟩
  ·have e1:(List.replicate aa.toNat [z]).flatten=List.replicate aa.toNat z:=by
    induction aa.toNat with
    | zero =>rfl
    | succ m ih =>rw [List.replicate_succ,List.flatten_cons,ih,List.replicate_succ]; rfl
   rw [e1]
   simp only [Env.setS,if_true,List.length_replicate]
   exact ao3 (by simp [b2']) (by unfold maxLen; omega) q hp
  ·rw [dS,ab3 ha H (Nat.le_of_ble_eq_true b9),acT b8' ha] at q2; exact q2
 cases res with
 | halt x w' =>exact hot
 | ok x w' =>
  cases x<;>first | exact hot | skip
  case value u' =>
   obtain ⟨b,rfl,hw'⟩:=hot
   obtain ⟨ρ',ha,hd,hc'⟩:=fin b w' hw'
   exact ⟨⟨ρ',n+1,_,.sl n⟩,hd.symm,⟨ha,Nat.le_succ _,(abU ha R (Nat.le_of_ble_eq_true b7)).symm,hn⟩,hc'⟩
  case skip =>
   obtain ⟨b,hb,hw'⟩:=hot
   cases hb
  case enter f args =>
   refine hot.mono fun e w'' ⟨b,he,hw'⟩ =>?_
   obtain ⟨ρ',ha,hd,hc'⟩:=fin b w'' hw'
   exact ⟨⟨ρ',n+1,_,.sl n⟩,by rw [he]; exact congrArg _ hd.symm,⟨ha,Nat.le_succ _,(abU ha R (Nat.le_of_ble_eq_true b7)).symm,hn⟩,hc'⟩
theorem aEw {o:Oper} {T:TypeId} {x y:Operand} {u v:V} {gs:List Gd} {n':Nat} {H':KT.H K} {r:V} (ho:o.op=.makeSlice T x y) (hx:evO R x=some u) (hy:evO R y=some v) (h:aKd K P R n Z H T u v=some (gs,n',H',r)) (hg:∀ g∈gs,g.P) (hn:nx n' H' r) :
  aeo K P nt B W o R n Z H nx:=fun F ρ a w s =>by
 obtain ⟨d,op,ty,ps,af,g⟩:=o
 simp only at ho
 subst ho
 unfold aKd at h
 split at h
 ·rename_i E hE
  split at h
  ·rename_i c hc
   split at h
   ·rename_i k1 aa l1 hu
    split at h
    ·rename_i k2 bb l2 hv
     split at h
     ·rename_i k hk
      split at h
      ·rename_i inf hi
       split at h
       ·rename_i k' hz
        split at h
        ·rename_i x0 hx0
         split at h
         ·rename_i hB
          cases h
          simp only [Bool.and_eq_true,abW] at hB
          obtain ⟨⟨⟨⟨b0,b1⟩,b2⟩,b3⟩,⟨⟨b7,b8⟩,b9⟩⟩:=hB
          obtain rfl:=ag4 b0
          have b1':=Nat.eq_of_beq_eq_true b1
          have b2':=Nat.eq_of_beq_eq_true b2
          have b3':=Nat.le_of_ble_eq_true b3
          have b8':=Nat.le_of_ble_eq_true b8
          obtain rfl:aa=bb:=hg ⟨aa=bb,inferInstance⟩ (List.mem_cons_self ..)
          obtain ⟨g1,g2⟩:0≤aa∧aa≤1099511627776:=hg ⟨0≤aa∧aa≤1099511627776,inferInstance⟩ (List.mem_cons_of_mem _ (List.mem_cons_self ..))
          have hvw:=K.bk_ok _ _ _ hx0
          exact aFJ hx hy hE hu hv hi hz rfl b1' b2' b3' (by simp only [Bool.and_eq_true,abW]; exact ⟨⟨b7,b8⟩,b9⟩) g1 g2 hvw (fun h =>aaI.2 rfl) hn F ρ a w s
         ·cases h
        ·cases h
       ·cases h
      ·cases h
     ·split at h
      ·rename_i inf hi
       split at h
       ·rename_i hz
        split at h
        ·rename_i x0 hx0
         split at h
         ·rename_i hB
          cases h
          simp only [Bool.and_eq_true] at hB
          obtain ⟨⟨⟨b1,b2⟩,b3⟩,b4⟩:=hB
          obtain rfl:aa=bb:=hg ⟨aa=bb,inferInstance⟩ (List.mem_cons_self ..)
          obtain ⟨g1,g2⟩:0≤aa∧aa≤1099511627776:=hg ⟨0≤aa∧aa≤1099511627776,inferInstance⟩ (List.mem_cons_of_mem _ (List.mem_cons_self ..))
          have hvw:=K.bk_ok _ _ _ hx0
          refine aFJ hx hy hE hu hv hi hz rfl (Nat.eq_of_beq_eq_true b1) (Nat.eq_of_beq_eq_true b2) (Nat.le_of_ble_eq_true b3) b4 g1 g2 hvw (fun h =>aaI.2 ⟨none,0,rfl,adl.2 ⟨[],?_⟩⟩) hn F ρ a w s
          exact asj _ _ trivial
         ·cases h
        ·cases h
       ·rename_i hz
        split at h
        ·rename_i x0 hx0
         split at h
         ·rename_i hB
          cases h
          simp only [Bool.and_eq_true] at hB
          obtain ⟨⟨⟨b1,b2⟩,b3⟩,b4⟩:=hB
          obtain rfl:aa=bb:=hg ⟨aa=bb,inferInstance⟩ (List.mem_cons_self ..)
          obtain ⟨g1,g2⟩:0≤aa∧aa≤1099511627776:=hg ⟨0≤aa∧aa≤1099511627776,inferInstance⟩ (List.mem_cons_of_mem _ (List.mem_cons_self ..))
          have hvw:=K.bk_ok _ _ _ hx0
          exact aFJ hx hy hE hu hv hi hz rfl (Nat.eq_of_beq_eq_true b1) (Nat.eq_of_beq_eq_true b2) (Nat.le_of_ble_eq_true b3) b4 g1 g2 hvw (fun h =>aaI.2 rfl) hn F ρ a w s
         ·cases h
        ·cases h
       ·cases h
      ·cases h
    ·cases h
   ·cases h
  ·cases h
 ·cases h
theorem aze {f:Fl K.T K.M} {v:Value} {h:Hp} (hf:∀ u,f≠.c u) (s:pcS K f v h):adw v=true:=by
 rw [aaI] at s
 cases f with
 | i k x =>have e:v=.int k x:=s; rw [e]; rfl
 | b x =>have e:v=.bool x:=s; rw [e]; rfl
 | c u =>exact absurd rfl (hf u)
 | own c x =>obtain ⟨q,e,_⟩:=s; rw [e]; rfl
 | row c xs =>obtain ⟨A,cap,e,_⟩:=s; rw [e]; rfl
 | ro c xs =>obtain ⟨A,cap,e,_⟩:=s; rw [e]; rfl
 | rr c xs =>obtain ⟨A,cap,e,_⟩:=s; rw [e]; rfl
 | mach m =>
  simp only [pcW] at s
  split at s
  ·rw [s]; rfl
  ·obtain ⟨q,e,_⟩:=s; rw [e]; rfl
 | o =>exact s
 | mp c ag m =>obtain ⟨b,e,_⟩:=s; rw [e]; rfl
theorem apL:∀ {l:List (Fl K.T K.M)} {vs:List Value} {L:List aad} {h:Hp},(∀ f∈l,∀ u,f≠.c u)→abY (fsS (pcS K) l vs++L) h→vs.all adw=true∧abY L h
 | [],[],_,_,_,s =>⟨rfl,s⟩
 | f::l,v::vs,L,h,hc,s =>by
  obtain ⟨k1,k2,a,e,h1,h2⟩:=s
  obtain ⟨h3,h4⟩:=apL (fun f hf =>hc f (List.mem_cons_of_mem _ hf)) h2
  refine ⟨by rw [List.all_cons,aze (hc f (List.mem_cons_self ..)) h1,h3]; rfl,?_⟩
  have:abY (pcS K f v::(fsS (pcS K) l vs++L)) h:=⟨k1,k2,a,e,h1,h2⟩
  have:=Ent.drop h this
  exact (apL (fun f hf =>hc f (List.mem_cons_of_mem _ hf)) this).2
 | [],_::_,_,_,_,⟨_,_,_,_,hf,_⟩ =>hf.elim
 | _::_,[],_,_,_,⟨_,_,_,_,hf,_⟩ =>hf.elim
theorem aqy {c:Nat} (hc:∀ x:K.T c,∀ f∈K.vw c x,∀ u,f≠.c u):∀ {ys:List (K.T c)} {vss:List (List Value)} {L:List aad} {h:Hp},abY (act K (pcS K) c ys vss++L) h→vss.flatten.all adw=true∧abY L h
 | [],[],_,_,s =>⟨rfl,s⟩
 | y::ys,vs::vss,L,h,s =>by
  have s':abY (fsS (pcS K) (K.vw c y) vs++(act K (pcS K) c ys vss++L)) h:=by simpa [act] using s
  obtain ⟨h1,h2⟩:=apL (hc y) s'
  obtain ⟨h3,h4⟩:=aqy hc h2
  exact ⟨by rw [List.flatten_cons,List.all_append,h1,h3]; rfl,h4⟩
 | [],_::_,_,_,⟨_,_,_,_,hf,_⟩ =>hf.elim
 | _::_,[],_,_,⟨_,_,_,_,hf,_⟩ =>hf.elim
theorem aEB {o:Oper} {T T':TypeId} {x y:Operand} {u v:V} {gs:List Gd} {n':Nat} {H':KT.H K} {r:V} (hnc:∀ (c:Nat) (x:K.T c),∀ f∈K.vw c x,∀ u,f≠.c u) (ho:o.op=.call ⟨.builtin .append,#[x,y],#[T,T']⟩) (hx:evO R x=some u) (hy:evO R y=some v) (h:aKm K P R n Z H T T' u v=some (gs,n',H',r)) (hg:∀ g∈gs,g.P) (hn:nx n' H' r) :
  aeo K P nt B W o R n Z H nx:=fun F ρ a w s =>by
 obtain ⟨d,op,ty,ps,af,g⟩:=o
 simp only at ho
 subst ho
 have ex:=(aaH (ρ:=ρ) hx).eval s.regs
 have ey:=(aaH (ρ:=ρ) hy).eval s.regs
 unfold aKm at h
 split at h
 ·rename_i hT
  obtain rfl:=Nat.eq_of_beq_eq_true hT
  split at h
  ·rename_i E hE
   split at h
   ·rename_i inf hi
    split at h
    ·rename_i c xs H1 hr
     split at h
     ·rename_i id2
      split at h
      ·rename_i c' ys' hgr
       split at h
       ·rename_i ys hy2
        split at h
        ·rename_i hB
         cases h
         obtain ⟨rfl,rfl⟩:=ago hy2
         simp only [Bool.and_eq_true,abW] at hB
         obtain ⟨⟨⟨⟨⟨b1,b2⟩,b4⟩,b5⟩,⟨⟨b7,b8⟩,b9⟩⟩,bt⟩:=hB
         have b1':=Nat.eq_of_beq_eq_true b1
         obtain ⟨z,hz,hzsz⟩:=aq8 b2
         have b4':0<K.sz c':=Nat.le_of_ble_eq_true b4
         have b5':=Nat.le_of_ble_eq_true b5
         have b8':=Nat.le_of_ble_eq_true b8
         have bt':=Nat.le_of_ble_eq_true bt
         have hguard:(((xs.length+ys.length:Nat)):Int)<100000000000:=hg _ (List.mem_singleton.2 rfl)
         obtain ⟨A,cap,hdx,htop,vss,h2,h3,s2⟩:=arq hr s.sat
         have s3:Sat B w (dH K ρ H1++(ae5 A xs.length cap (K.sz c') vss.flatten::(act K (pcS K) c' xs vss++tl K Z F ρ))):=s2.perm (by
          refine List.Perm.symm ?_
          refine (List.perm_middle (l₁:=dH K ρ H1)).trans (List.Perm.cons _ ?_)
          exact ac6 _ _ _)
         have hdy:=ai9 s3 (.inl hgr)
         obtain ⟨hn2,vs2,e1,e2,s4⟩:=aku s3 hgr
         obtain ⟨r1,r2,r3,r4⟩:=afo s4 (List.mem_cons_self ..)
         have s5:Sat B w (ae5 A xs.length cap (K.sz c') vss.flatten::(act K (pcS K) c' ys vs2++(act K (pcS K) c' xs vss++(dH K ρ (del H1 id2)++tl K Z F ρ)))):=by
          have s6:Sat B w (act K (pcS K) c' ys vs2++(dH K ρ (del H1 id2)++(ae5 A xs.length cap (K.sz c') vss.flatten::(act K (pcS K) c' xs vss++tl K Z F ρ)))):=s4.drop
          refine s6.perm ?_
          refine (List.Perm.append_left _ (List.perm_middle (l₁:=dH K ρ (del H1 id2)))).trans ?_
          refine (List.perm_middle (l₁:=act K (pcS K) c' ys vs2)).trans (List.Perm.cons _ ?_)
          exact List.Perm.append_left _ (ac6 _ _ _)
         have hby:(xs.length+ys.length)*inf.bytes≤140737488355328:=by
          have h1:xs.length+ys.length≤100000000000:=by omega
          have h2:(xs.length+ys.length)*inf.bytes≤100000000000*200:=Nat.mul_le_mul h1 b5'
          omega
         have hul:vs2.flatten.length=ys.length*K.sz c':=by rw [ajz e2,e1]
         have hsc:vs2.flatten.all adw=true:=by
          have s7:=s5.drop
          obtain ⟨hh,Hh,hs⟩:=s7
          exact (aqy (hnc c') hs).1
         have hcells:ys.length=0∨∃ b o,(ρ.s id2).a=some ⟨b,o,none⟩∧∀ j u,vs2.flatten[j]?=some u→w.cell? ⟨b,o+j,none⟩=some u:=by
          rcases r4 with ⟨_,r4⟩ | ⟨b,o,r4,r5⟩
          ·left; omega
          ·exact .inr ⟨b,o,r4,r5⟩
         obtain ⟨A',cap',w',hrun,c1,c2,c3⟩:=aq3 (ty:=ty) (W:=W) (c:=(ρ.s id2).c) (acb hE) ⟨inf,hi,hz,b1',rfl⟩ hzsz b4' hcells s5 s.below s.lo hul hsc (by unfold maxLen; omega) hby
         have:(execOp a.eval ⟨d,.call ⟨.builtin .append,#[x,y],#[T,T]⟩,ty,ps,af,g⟩).run P w=.ok (.value (.slice A' (xs.length+ys.length) cap')) w':=by
          simp only [execOp,resolve,List.map_toArray,List.map_cons,List.map_nil,ex,ey,hdx,hdy]
          simp only [invoke,builtin]
          simp [hrun]
         rw [this]
         have ha:=acj ρ n ⟨A',xs.length+ys.length,cap'⟩
         refine ⟨⟨ρ.setS n ⟨A',xs.length+ys.length,cap'⟩,n+1,_,.sl n⟩,by simp [aau,Env.setS],⟨ha,Nat.le_succ _,(abU ha R (Nat.le_of_ble_eq_true b7)).symm,hn⟩,c1,c2,?_⟩
         refine c3.imp fun k hk =>?_
         have g5:abY ((ae5 A' (xs++ys).length cap' (K.sz c') (vss++vs2).flatten::act K (pcS K) c' (xs++ys) (vss++vs2))++(dH K ρ (del H1 id2)++tl K Z F ρ)) k:=by
          rw [aoi h2,List.length_append,List.flatten_append]
          refine abV (List.Perm.cons _ ?_) hk
          exact (ac6 _ _ _).trans (by rw [← List.append_assoc]; exact List.Perm.refl _)
         obtain ⟨j1,j2,a'',e'',q1,q2⟩:=aal.1 g5
         refine ⟨j1,j2,a'',e'',⟨by simp [Env.setS],adl.2 ⟨vss++vs2,?_⟩⟩,?_⟩
         ·simpa [Env.setS] using q1
         ·rw [ab3 ha _ bt',acT b8' ha] at q2; exact q2
        ·cases h
       ·cases h
      ·cases h
     ·cases h
    ·cases h
   ·cases h
  ·cases h
 ·cases h
end
theorem ay2 {b o:Nat} {xs ys:List Value} {h k:Hp} (a:apart h k) (p:pts b o xs h) (q:pts b (o+xs.length) ys k):pts b o (xs++ys) (ac7 h k):=fun i v hi =>by
 rcases Nat.lt_or_ge i xs.length with hl | hl
 ·rw [List.getElem?_append_left hl] at hi
  unfold ac7; rw [p i v hi]
 ·rw [List.getElem?_append_right hl] at hi
  have:=q (i-xs.length) v hi
  rw [show o+xs.length+(i-xs.length)=o+i by omega] at this
  rw [apJ a]
  unfold ac7; rw [this]
def hpL (b o:Nat) (h:Hp):Hp:=fun x y =>if x=b∧y<o then h x y else none
def hpR (b o:Nat) (h:Hp):Hp:=fun x y =>if x=b∧y<o then none else h x y
theorem aCI (b o:Nat) (h:Hp):apart (hpL b o h) (hpR b o h)∧h=ac7 (hpL b o h) (hpR b o h):=by
 refine ⟨fun x y =>?_,?_⟩
 ·by_cases hc:x=b∧y<o
  ·exact .inr (.inl (by unfold hpR; rw [if_pos hc]))
  ·exact .inl (by unfold hpL; rw [if_neg hc])
 ·funext x y
  unfold ac7 hpL hpR
  by_cases hc:x=b∧y<o
  ·rw [if_pos hc,if_pos hc]; cases h x y<;>rfl
  ·rw [if_neg hc,if_neg hc]
theorem axR {b o:Nat} {xs ys:List Value} {L:List aad} {h:Hp} (s:abY ((fun k =>pts b o (xs++ys) k)::L) h):abY (pts b o xs::pts b (o+xs.length) ys::L) h:=by
 obtain ⟨k1,k2,a,e,hp,hL⟩:=s
 obtain ⟨p1,p2⟩:=amI hp
 obtain ⟨a1,e1⟩:=aCI b (o+xs.length) k1
 have q1:pts b o xs (hpL b (o+xs.length) k1):=fun i v hi =>by
  have hl:=(List.getElem?_eq_some_iff.1 hi).1
  unfold hpL; rw [if_pos ⟨rfl,by omega⟩]; exact p1 i v hi
 have q2:pts b (o+xs.length) ys (hpR b (o+xs.length) k1):=fun i v hi =>by
  unfold hpR; rw [if_neg (by omega)]; exact p2 i v hi
 rw [e1] at a e
 have a2:=(aa4 a1).1 a
 refine ⟨_,ac7 (hpR b (o+xs.length) k1) k2,?_,by rw [e,adc],q1,_,k2,a2.2,rfl,q2,hL⟩
 exact aar ((aa4 a2.2).2 ⟨aar a1,aar a2.1⟩)
section
variable {K:KT}
def aBq {T:Nat→Type} {M:Type}:List (Fd T M)→Option (List V)
 | [] =>some []
 | .v x::l =>match aBq l with
  | some xs =>some (x::xs)
  | none =>none
 | .f _::_ =>none
theorem av4 {T:Nat→Type} {M:Type}:∀ {l:List (Fd T M)} {vs:List V},aBq l=some vs→l=vs.map .v
 | [],vs,h =>by cases h; rfl
 | .v x::l,vs,h =>by
  unfold aBq at h
  split at h
  ·rename_i xs hx; cases h; rw [av4 hx]; rfl
  ·cases h
 | .f _::_,_,h =>by cases h
theorem apN {ρ:Env}:∀ {vs:List V} {us:List Value} {L:List aad} {h:Hp},abY (fsS (fS K ρ) (vs.map .v) us++L) h→us=aag ρ vs∧abY L h
 | [],[],_,_,s =>⟨rfl,s⟩
 | v::vs,u::us,L,h,⟨k1,k2,a,e,h1,h2⟩ =>by
  have h1':u=aau ρ v:=h1
  obtain ⟨h3,h4⟩:=apN h2
  refine ⟨by rw [h1',h3]; rfl,?_⟩
  have s:abY (fS K ρ (.v v) u::(fsS (fS K ρ) (vs.map .v) us++L)) h:=⟨k1,k2,a,e,h1,h2⟩
  exact (apN (Ent.drop h s)).2
 | [],_::_,_,_,⟨_,_,_,_,hf,_⟩ =>hf.elim
 | _::_,[],_,_,⟨_,_,_,_,hf,_⟩ =>hf.elim
theorem aBK {ρ:Env} {B:Nat} {w:World} {H:KT.H K} {X:List aad} {id e m sz:Nat} {vs:List V} (s:Sat B w (dH K ρ H++X)) (hg:get H id=some (.slc e m sz)) (hg2:get (del H id) e=some (.cells (vs.map .v))) (hl:vs.length=m*sz) :
  (ρ.s id).n=m∧Sat B w (ae5 (ρ.s id).a m (ρ.s id).c sz (aag ρ vs)::(dH K ρ (del (del H id) e)++X)):=by
 have h1:=awg s hg
 refine ⟨h1.2,?_⟩
 have s1:=s.imp (aaO (ρ:=ρ) hg)
 obtain ⟨hh,Hh,k1,k2,a,e1,⟨⟨c1,c2,c3,c4⟩,spare,c5,c6⟩,hL⟩:=s1
 have s2:Sat B w (pts (ρ.p e).1 ((ρ.p e).2+m*sz) spare::(dH K ρ (del H id)++X)):=⟨hh,Hh,k1,k2,a,e1,c6,hL⟩
 have s3:=(s2.perm (List.perm_middle (l₁:=dH K ρ (del H id))).symm).imp (aaO (ρ:=ρ) hg2)
 obtain ⟨us,s4⟩:=ag3 s3
 have s5:Sat B w (fsS (fS K ρ) (vs.map .v) us++(pts (ρ.p e).1 (ρ.p e).2 us::(dH K ρ (del (del H id) e)++(pts (ρ.p e).1 ((ρ.p e).2+m*sz) spare::X)))):=s4.perm (List.perm_middle (l₁:=fsS (fS K ρ) (vs.map .v) us)).symm
 obtain ⟨h6,Hh6,s6⟩:=s5
 obtain ⟨rfl,s7⟩:=apN s6
 have s8:abY (pts (ρ.p e).1 (ρ.p e).2 (aag ρ vs)::pts (ρ.p e).1 ((ρ.p e).2+m*sz) spare::(dH K ρ (del (del H id) e)++X)) h6:=abV (List.Perm.cons _ (List.perm_middle (l₁:=dH K ρ (del (del H id) e)))) s7
 obtain ⟨j1,j2,ja,je,p1,j3,j4,ja2,je2,p2,jL⟩:=s8
 have hdl:(aag ρ vs).length=m*sz:=by rw [aaR,List.length_map,hl]
 subst je2
 have a3:=(aa4 ja2).1 (aar ja)
 refine ⟨h6,Hh6,ac7 j1 j3,j4,?_,by rw [je,adc],⟨hdl,c3,c4,.inr ⟨_,_,spare,c1,c5,?_⟩⟩,jL⟩
 ·exact (aa4 (aar a3.1)).2 ⟨aar a3.2,ja2⟩
 ·exact ay2 (aar a3.1) p1 (by rw [hdl]; exact p2)
variable (K) in
def aEN (H:KT.H K) (sz:Nat):V→Option (Nat×List V×KT.H K)
 | .sl id =>match get H id with
  | some (.slc e m sz') =>match get (del H id) e with
   | some (.cells fs) =>match aBq fs with
    | some vs =>match Nat.beq sz' sz && Nat.beq vs.length (m*sz) with
     | true =>some (m,vs,del (del H id) e)
     | false =>none
    | none =>none
   | _ =>none
  | _ =>none
 | .c (.slice none 0 0) =>some (0,[],H)
 | _ =>none
theorem aBL {H:KT.H K} {sz:Nat} {x:V} {m:Nat} {vs:List V} {H1:KT.H K} (h:aEN K H sz x=some (m,vs,H1)) {ρ:Env} {B:Nat} {w:World} {X:List aad} (s:Sat B w (dH K ρ H++X)) :
  ∃ A cap,aau ρ x=.slice A m cap∧afl H1≤afl H∧vs.length=m*sz∧Sat B w (ae5 A m cap sz (aag ρ vs)::(dH K ρ H1++X)):=by
 unfold aEN at h
 split at h
 ·rename_i id
  split at h
  ·rename_i e m' sz' hg
   split at h
   ·rename_i fs hg2
    split at h
    ·rename_i us hv
     split at h
     ·rename_i hB
      cases h
      simp only [Bool.and_eq_true] at hB
      obtain rfl:=Nat.eq_of_beq_eq_true hB.1
      have hl:=Nat.eq_of_beq_eq_true hB.2
      rw [av4 hv] at hg2
      obtain ⟨h1,h2⟩:=aBK s hg hg2 hl
      exact ⟨_,_,by rw [aau,h1],Nat.le_trans afk afk,hl,h2⟩
     ·cases h
    ·cases h
   ·cases h
  ·cases h
 ·cases h
  exact ⟨none,0,rfl,Nat.le_refl _,by simp,s.imp (asj _)⟩
 ·cases h
variable (K) in
def aKl (P:Program) (R:aaZ) (n:Nat) (Z H:KT.H K) (T T':TypeId) (x y:V):Option (Nat×KT.H K×V) :=
 match Nat.beq T T' with
 | true =>match ahD P T with
  | some E =>match P.info? E with
   | some inf =>match y with
    | .sl id2 =>match get H id2 with
     | some (.arr m2 sz us) =>match aEN K (del H id2) sz x with
      | some (m,vs,H1) =>match Nat.beq inf.size sz && aG1 inf.zero sz && Nat.blt 0 m2 && Nat.blt 0 sz && Nat.ble ((m+m2)*inf.bytes) 1000000 && Nat.ble (m+m2) 1000000 && (us.all (scV (del H id2)) && Nat.ble (aib (vs++us)) n && abW K R n Z H && Nat.ble (afl H1) n) with
       | true =>some (n+2,(n,.slc (n+1) (m+m2) sz)::(n+1,.cells ((vs++us).map .v))::H1,.sl n)
       | false =>none
      | none =>none
     | _ =>none
    | _ =>none
   | none =>none
  | none =>none
 | false =>none
variable {P:Program} {nt n B:Nat} {W:World} {R:aaZ} {Z H:KT.H K} {nx:Nat→KT.H K→V→Prop}
theorem aEA {o:Oper} {T T':TypeId} {x y:Operand} {u v:V} {n':Nat} {H':KT.H K} {r:V} (ho:o.op=.call ⟨.builtin .append,#[x,y],#[T,T']⟩) (hx:evO R x=some u) (hy:evO R y=some v) (h:aKl K P R n Z H T T' u v=some (n',H',r)) (hn:nx n' H' r) :
  aeo K P nt B W o R n Z H nx:=fun F ρ a w s =>by
 obtain ⟨d,op,ty,ps,af,g⟩:=o
 simp only at ho
 subst ho
 have ex:=(aaH (ρ:=ρ) hx).eval s.regs
 have ey:=(aaH (ρ:=ρ) hy).eval s.regs
 unfold aKl at h
 split at h
 ·rename_i hT
  obtain rfl:=Nat.eq_of_beq_eq_true hT
  split at h
  ·rename_i E hE
   split at h
   ·rename_i inf hi
    split at h
    ·rename_i id2
     split at h
     ·rename_i m2 sz us hg2
      split at h
      ·rename_i m vs H1 hr
       split at h
       ·rename_i hB
        cases h
        simp only [Bool.and_eq_true,abW] at hB
        obtain ⟨⟨⟨⟨⟨⟨b1,b2⟩,b3⟩,b4⟩,b5⟩,b6⟩,⟨⟨b7,b8⟩,⟨⟨b9,b10⟩,b11⟩⟩,b12⟩:=hB
        have b1':=Nat.eq_of_beq_eq_true b1
        obtain ⟨z,hz,hzsz⟩:=aq8 b2
        have b3':0<m2:=Nat.le_of_ble_eq_true b3
        have b4':0<sz:=Nat.le_of_ble_eq_true b4
        have b5':=Nat.le_of_ble_eq_true b5
        have b6':=Nat.le_of_ble_eq_true b6
        have b8':=Nat.le_of_ble_eq_true b8
        have b10':=Nat.le_of_ble_eq_true b10
        have b12':=Nat.le_of_ble_eq_true b12
        obtain ⟨⟨a1,a2,a3⟩,s4⟩:=axz (X:=tl K Z F ρ) s.sat hg2
        have hsc:(aag ρ us).all adw=true:=by
         rw [aaR,List.all_map,List.all_eq_true]
         intro q hq
         exact ayK (List.all_eq_true.1 b7 q hq) s4.drop
        have s5:Sat B w (dH K ρ (del H id2)++(pts (ρ.p id2).1 (ρ.p id2).2 (aag ρ us)::tl K Z F ρ)):=s4.perm (List.perm_middle (l₁:=dH K ρ (del H id2))).symm
        obtain ⟨A,cap,hdx,htop,hvl,s6⟩:=aBL hr s5
        have s7:Sat B w (ae5 A m cap sz (aag ρ vs)::pts (ρ.p id2).1 (ρ.p id2).2 (aag ρ us)::(dH K ρ H1++tl K Z F ρ)):=s6.perm (List.Perm.cons _ (List.perm_middle (l₁:=dH K ρ H1)))
        obtain ⟨A',cap',w',hrun,c1,c2,c3⟩:=aq4 (ty:=ty) (c:=m2) (W:=W) (acb hE) ⟨inf,hi,hz,b1',rfl⟩ hzsz b4' s7 s.below s.lo (by rw [aaR]; simpa using a2) hsc b3' (by unfold maxLen; omega) (by omega)
        have:(execOp a.eval ⟨d,.call ⟨.builtin .append,#[x,y],#[T,T]⟩,ty,ps,af,g⟩).run P w=.ok (.value (.slice A' (m+m2) cap')) w':=by
         simp only [execOp,resolve,List.map_toArray,List.map_cons,List.map_nil,ex,ey,hdx,aau,a1]
         simp only [invoke,builtin]
         simp [hrun]
        rw [this]
        obtain ⟨r1,r2,r3,r4⟩:=afo c3 (List.mem_cons_self ..)
        have hA:∃ b o,A'=some ⟨b,o,none⟩:=by
         rcases r4 with ⟨_,r4⟩ | ⟨b,o,r4,_⟩
         ·omega
         ·exact ⟨b,o,r4⟩
        obtain ⟨b,o,rfl⟩:=hA
        let ρ':=(ρ.setP (n+1) (b,o)).setS n ⟨some ⟨b,o,none⟩,m+m2,cap'⟩
        have ha:aay n ρ ρ':=((ah7 ρ (n+1) (b,o)).le (Nat.le_succ _)).trans (acj _ n _) (Nat.le_refl _)
        refine ⟨⟨ρ',n+2,_,.sl n⟩,by simp [aau,ρ',Env.setS],⟨ha,Nat.le_add_right _ 2,(abU ha R (Nat.le_of_ble_eq_true b9)).symm,hn⟩,c1,c2,?_⟩
        have c4:Sat B w' (ae5 (some ⟨b,o,none⟩) (m+m2) cap' sz (aag ρ vs++aag ρ us)::(dH K ρ H1++tl K Z F ρ)):=(c3.perm (List.Perm.swap ..)).drop
        refine c4.imp fun k hk =>?_
        obtain ⟨k1,k2,ka,ke,⟨q1,q2,q3,q4⟩,hL⟩:=hk
        rcases q4 with ⟨q4,_⟩ | ⟨b',o',spare,q4,q5,q6⟩
        ·cases q4
        ·injection q4 with q4
         injection q4 with q4a q4b
         subst q4a q4b
         have hall:abY ((fun k =>pts b o ((aag ρ vs++aag ρ us)++spare) k)::(dH K ρ H1++tl K Z F ρ)) k:=⟨k1,k2,ka,ke,q6,hL⟩
         have hsp:=axR hall
         rw [q1] at hsp
         have e3:dH K ρ H1++tl K Z F ρ=dH K ρ' H1++tl K Z F ρ':=by rw [ab3 ha H1 b12',acT b10' ha]
         rw [e3] at hsp
         have e4:aag ρ vs++aag ρ us=aag ρ' (vs++us):=by rw [← apX,adW ha _ b8']
         have hsw:abY (pts b (o+(m+m2)*sz) spare::pts b o (aag ρ vs++aag ρ us)::(dH K ρ' H1++tl K Z F ρ')) k:=aoW hsp
         refine aaL (A':=acg K ρ' n (.slc (n+1) (m+m2) sz)) (fun q hq =>⟨⟨by simp [ρ',Env.setS,Env.setP],by simp [ρ',Env.setS],by simp [ρ',Env.setS]; exact q2,by simp [ρ',Env.setS]; exact q3⟩,spare,by simp [ρ',Env.setS]; exact q5,by simpa [ρ',Env.setS,Env.setP] using hq⟩) (abu (fun q hq =>?_) hsw)
         refine aaL (A':=acg K ρ' (n+1) (.cells ((vs++us).map .v))) (fun q hq =>?_) hq
         refine ⟨aag ρ' (vs++us),?_⟩
         rw [e4] at hq
         have hq':abY [pts b o (aag ρ' (vs++us))] q:=⟨q,fun _ _ =>none,fun _ _ =>.inr (.inl rfl),by funext x y; unfold ac7; cases q x y<;>rfl,hq,trivial⟩
         have hq2:=abV (List.Perm.symm (List.perm_append_comm (l₁:=fsS (fS K ρ') ((vs++us).map .v) (aag ρ' (vs++us))) (l₂:=[pts b o (aag ρ' (vs++us))])).symm) (aiq (K:=K) hq')
         have hq3:=abV (List.perm_append_comm (l₁:=fsS (fS K ρ') ((vs++us).map .v) (aag ρ' (vs++us)))) (aiq (K:=K) hq')
         simpa [ρ',Env.setS,Env.setP] using hq3
       ·cases h
      ·cases h
     ·cases h
    ·cases h
   ·cases h
  ·cases h
 ·cases h
variable (K) in
def aGV (P:Program) (R:aaZ) (H:KT.H K) (T:TypeId) (x y:Operand):Option ((Nat×Nat)×(Nat×Int×Nat)×IntKind) :=
 match evO R x with
 | some (.sl id) =>match get H id with
  | some (.slc e m sz) =>match agn P T with
   | some sz' =>match Nat.beq sz' sz with
    | true =>match evO R y with
     | some u =>match aj3 u with
      | some (k,j,_) =>some ((e,0),(m,j,sz),k)
      | none =>none
     | none =>none
    | false =>none
   | none =>none
  | _ =>none
 | _ =>none
theorem az9 {ρ:Env} {T:TypeId} {x y:Operand} {id o len sz:Nat} {j:Int} {kk:IntKind} {X:List aad} {w0:World} (h:aGV K P R H T x y=some ((id,o),(len,j,sz),kk)) (s:Sat B w0 (dH K ρ H++X)) {a:Act} (r:Regs nt a (dR ρ R)) {i:Nat} (hi:i<len) (hj:j=((i:Nat):Int))
  {d:Option Tmp} {ty:TypeId} {ps:String} {af:Array Edge} {g:Option (Nat×Bool)} (w:World):(execOp a.eval ⟨d,.indexAddr T x y,ty,ps,af,g⟩).run P w=.ok (.value (aau ρ (.ptr id (o+i*sz)))) w:=by
 unfold aGV at h
 split at h
 ·rename_i id' hx
  split at h
  ·rename_i e m sz' hg
   split at h
   ·rename_i sz2 he
    split at h
    ·rename_i hsz
     split at h
     ·rename_i u hy
      split at h
      ·rename_i k' j' l' hi'
       cases h
       obtain rfl:=Nat.eq_of_beq_eq_true hsz
       have ex:=aaH (ρ:=ρ) hx
       have ey:=ab9 (ρ:=ρ) hy hi'
       obtain ⟨h1,h2⟩:=awg s hg
       simp only [aau,h1,h2] at ex
       have:=aif (P:=P) (n:=nt) (d:=d) (ty:=ty) (ps:=ps) (af:=af) (g:=g) (i:=i) (o':=(ρ.p id).2+(0+i*sz2)) ex ey hj hi he (by omega)
       exact this a w r
      ·cases h
     ·cases h
    ·cases h
   ·cases h
  ·cases h
 ·cases h
theorem aCR {ρ:Env} {T:TypeId} {x y:Operand} {q:Nat×Nat} {len sz:Nat} {j:Int} {kk:IntKind} (h:aGV K P R H T x y=some (q,(len,j,sz),kk)):∃ u,evO R y=some u∧aau ρ u=.int kk j:=by
 unfold aGV at h
 split at h
 ·split at h
  ·split at h
   ·split at h
    ·split at h
     ·rename_i u hy
      split at h
      ·rename_i hi
       cases h; exact ⟨u,hy,afq hi⟩
      ·cases h
     ·cases h
    ·cases h
   ·cases h
  ·cases h
 ·cases h
end
inductive Sh where
 | i (k:IntKind)
 | b
 | own (c:Nat)
 | row (c:Nat)
 | ro (c:Nat)
 | rr (c:Nat)
 | mach
 | o
 | mp (c:Nat) (ag:Bool)
section
variable (T:Nat→Type) (M:Type)
def shT:Sh→Type
 | .i _ =>Int
 | .b =>Bool
 | .own c =>T c
 | .row c =>List (T c)
 | .ro c =>List (T c)
 | .rr c =>List (List (T c))
 | .mach =>M
 | .o =>Unit
 | .mp c _ =>Int→Option (T c)
def HL:List Sh→Type
 | [] =>Unit
 | s::l =>shT T M s×HL l
def vw1:(s:Sh)→shT T M s→Fl T M
 | .i k,x =>.i k x
 | .b,x =>.b x
 | .own c,x =>.own c x
 | .row c,x =>.row c x
 | .ro c,x =>.ro c x
 | .rr c,x =>.rr c x
 | .mach,x =>.mach x
 | .o,_ =>.o
 | .mp c ag,x =>.mp c ag x
def vwP:(l:List Sh)→HL T M l→List (Fl T M)
 | [],_ =>[]
 | s::l,p =>vw1 T M s p.1::vwP l p.2
def cst {F:Nat→Type} (c c':Nat) (x:F c):Option (F c'):=if h:c=c' then some (h▸x) else none
theorem aua {F:Nat→Type} {c c':Nat} {x:F c} {y:F c'} (h:cst c c' x=some y):∃ e:c=c',y=e▸x:=by
 unfold cst at h
 split at h
 ·rename_i e; cases h; exact ⟨e,rfl⟩
 ·cases h
def aKu:IntKind→IntKind→Bool
 | .i64,.i64 =>true
 | .u64,.u64 =>true
 | .u8,.u8 =>true
 | _,_ =>false
theorem aGE {k k':IntKind} (h:aKu k k'=true):k=k':=by cases k<;>cases k'<;>first | rfl | cases h
def bk1:(s:Sh)→Fl T M→Option (shT T M s)
 | .i k =>fun f =>match f with
  | .i k' x =>match aKu k' k with
   | true =>some x
   | false =>none
  | _ =>none
 | .b =>fun f =>match f with
  | .b x =>some x
  | _ =>none
 | .own c =>fun f =>match f with
  | .own c' x =>cst (F:=T) c' c x
  | _ =>none
 | .row c =>fun f =>match f with
  | .row c' x =>cst (F:=fun c =>List (T c)) c' c x
  | _ =>none
 | .ro c =>fun f =>match f with
  | .ro c' x =>cst (F:=fun c =>List (T c)) c' c x
  | _ =>none
 | .rr c =>fun f =>match f with
  | .rr c' x =>cst (F:=fun c =>List (List (T c))) c' c x
  | _ =>none
 | .mach =>fun f =>match f with
  | .mach x =>some x
  | _ =>none
 | .o =>fun f =>match f with
  | .o =>some ()
  | _ =>none
 | .mp c ag =>fun f =>match f with
  | .mp c' ag' x =>match ag' == ag with
   | true =>cst (F:=fun c =>Int→Option (T c)) c' c x
   | false =>none
  | _ =>none
theorem aAN {s:Sh} {f:Fl T M} {x:shT T M s} (h:bk1 T M s f=some x):vw1 T M s x=f:=by
 cases s with
 | i k =>
  cases f<;>first | (have h':(none:Option (shT T M (.i k)))=some x:=h; cases h'; done) | skip
  rename_i k' y
  have h':(match aKu k' k with | true =>some y | false =>none)=some x:=h
  split at h'
  ·rename_i e; cases h'; rw [aGE e]; rfl
  ·cases h'
 | b =>
  cases f<;>first | (have h':(none:Option (shT T M .b))=some x:=h; cases h'; done) | skip
  rename_i y
  have h':some y=some x:=h
  cases h'; rfl
 | own c =>
  cases f<;>first | (have h':(none:Option (shT T M (.own c)))=some x:=h; cases h'; done) | skip
  rename_i c' y
  obtain ⟨e,h2⟩:=aua (show cst (F:=T) c' c y=some x from h)
  subst e; subst h2; rfl
 | row c =>
  cases f<;>first | (have h':(none:Option (shT T M (.row c)))=some x:=h; cases h'; done) | skip
  rename_i c' y
  obtain ⟨e,h2⟩:=aua (show cst (F:=fun c =>List (T c)) c' c y=some x from h)
  subst e; subst h2; rfl
 | ro c =>
  cases f<;>first | (have h':(none:Option (shT T M (.ro c)))=some x:=h; cases h'; done) | skip
  rename_i c' y
  obtain ⟨e,h2⟩:=aua (show cst (F:=fun c =>List (T c)) c' c y=some x from h)
  subst e; subst h2; rfl
 | rr c =>
  cases f<;>first | (have h':(none:Option (shT T M (.rr c)))=some x:=h; cases h'; done) | skip
  rename_i c' y
  obtain ⟨e,h2⟩:=aua (show cst (F:=fun c =>List (List (T c))) c' c y=some x from h)
  subst e; subst h2; rfl
 | mach =>
  cases f<;>first | (have h':(none:Option (shT T M .mach))=some x:=h; cases h'; done) | skip
  rename_i y
  have h':some y=some x:=h
  cases h'; rfl
 | o =>
  cases f<;>first | (have h':(none:Option (shT T M .o))=some x:=h; cases h'; done) | skip
  rfl
 | mp c ag =>
  cases f<;>first | (have h':(none:Option (shT T M (.mp c ag)))=some x:=h; cases h'; done) | skip
  rename_i c' ag' y
  have h':(match ag' == ag with | true =>cst (F:=fun c =>Int→Option (T c)) c' c y | false =>none)=some x:=h
  split at h'
  ·rename_i e0
   obtain ⟨e,h2⟩:=aua h'
   have e1:ag'=ag:=eq_of_beq e0
   subst e; subst h2; subst e1; rfl
  ·cases h'
def bkP:(l:List Sh)→List (Fl T M)→Option (HL T M l)
 | [],[] =>some ()
 | s::l,f::fs =>match bk1 T M s f with
  | some x =>match bkP l fs with
   | some p =>some (x,p)
   | none =>none
  | none =>none
 | _,_ =>none
theorem aAM:∀ {l:List Sh} {fs:List (Fl T M)} {p:HL T M l},bkP T M l fs=some p→vwP T M l p=fs
 | [],[],p,_ =>rfl
 | s::l,f::fs,p,h =>by
  unfold bkP at h
  split at h
  ·rename_i x hx
   split at h
   ·rename_i q hq
    cases h
    show vw1 T M s x::vwP T M l q=_
    rw [aAN _ _ hx,aAM hq]
   ·cases h
  ·cases h
 | [],_::_,_,h =>by cases h
 | _::_,[],_,h =>by cases h
theorem aG9 (s:Sh) (x:shT T M s) (u:Value):vw1 T M s x≠.c u:=by cases s<;>exact fun h =>by cases h
theorem aDE:∀ (l:List Sh) (p:HL T M l),∀ f∈vwP T M l p,∀ u,f≠.c u
 | [],_,f,h,_ =>by cases h
 | s::l,p,f,h,u =>by
  rcases List.mem_cons.1 (show f∈vw1 T M s p.1::vwP T M l p.2 from h) with e | e
  ·subst e; exact aG9 T M s p.1 u
  ·exact aDE l p.2 f e u
theorem ayo:∀ {l:List Sh} {p:HL T M l},(vwP T M l p).length=l.length
 | [],_ =>rfl
 | s::l,p =>by
  show (vw1 T M s p.1::vwP T M l p.2).length=_
  rw [List.length_cons,ayo,List.length_cons]
def aHD:List Sh→Bool
 | [] =>true
 | s::l =>match s with
  | .i _ =>aHD l
  | .b =>aHD l
  | _ =>false
theorem au2:∀ (l:List Sh) (p:HL T M l),aHD l=true→ajf (vwP T M l p)=true
 | [],_,_ =>rfl
 | .i k::l,p,h =>au2 l p.2 h
 | .b::l,p,h =>au2 l p.2 h
 | .own _::_,_,h =>by cases h
 | .row _::_,_,h =>by cases h
 | .ro _::_,_,h =>by cases h
 | .rr _::_,_,h =>by cases h
 | .mach::_,_,h =>by cases h
 | .o::_,_,h =>by cases h
 | .mp ..::_,_,h =>by cases h
end
structure Shp where
 T:Nat→Type
 M:Type
 sh:Nat→List Sh
 to_:(c:Nat)→T c→HL T M (sh c)
 of:(c:Nat)→HL T M (sh c)→T c
 ok:∀ c p,to_ c (of c p)=p
 df:(c:Nat)→T c
 tid:Nat→TypeId
 tk:TypeId→Option Nat
 spl:M→Option (Σ c:Nat,T c)
 nilM:M
 nilM_ok:spl nilM=none
 mkM:(c:Nat)→T c→Option M
 mkM_ok:∀ c x m,mkM c x=some m→spl m=some ⟨c,x⟩
 kd:TypeId→Option Nat
 kd_ok:∀ t c,kd t=some c→tid c=t
 ls:(c c':Nat)→Option (PLift (T c'=List (T c)))
 ls_ok:∀ c c' h,ls c c'=some h→∀ x,vwP T M (sh c') (to_ c' x)=[.ro c (h.down▸x)]∨(vwP T M (sh c') (to_ c' x)=[.row c (h.down▸x)]∧aHD (sh c)=true∧0<(sh c).length)
abbrev Shp.kt (S:Shp):KT where
 T:=S.T
 M:=S.M
 df:=S.df
 sz:=fun c =>(S.sh c).length
 vw:=fun c x =>vwP S.T S.M (S.sh c) (S.to_ c x)
 bk:=fun c l =>(bkP S.T S.M (S.sh c) l).map (S.of c)
 bk_ok:=fun c l x h =>by
  simp only [Option.map_eq_some_iff] at h
  obtain ⟨p,hp,rfl⟩:=h
  rw [S.ok]; exact aAM _ _ hp
 sz_ok:=fun c x =>ayo _ _
 pl:=fun c =>aHD (S.sh c)
 pl_ok:=fun c h x =>au2 _ _ _ _ h
 nc:=fun c x =>aDE _ _ _ _
 tid:=S.tid
 tk:=S.tk
 spl:=S.spl
 nilM:=S.nilM
 nilM_ok:=S.nilM_ok
 mkM:=S.mkM
 mkM_ok:=S.mkM_ok
 kd:=S.kd
 kd_ok:=S.kd_ok
 ls:=S.ls
 ls_ok:=S.ls_ok
theorem aap {α:Type _} {l m:List α} (h:∀ (f:List α→Nat) (g:α→Nat),(∀ x y,f (x++y)=f x+f y)→(∀ a x,f (a::x)=g a+f x)→f []=0→f l=f m):l.Perm m:=by
 classical
 rw [List.perm_iff_count]
 intro a
 refine h (fun l =>l.count a) (fun x =>if x == a then 1 else 0) (fun x y =>List.count_append) (fun b x =>?_) rfl
 simp only [List.count_cons]; omega
theorem aoP {T:Nat→Type} {M:Type}:∀ l:List (Fl T M),ak9 (l.map (Fd.f:Fl T M→Fd T M))=0
 | [] =>rfl
 | _::l =>by simp only [List.map_cons,ak9,aoP l,aDF]; rfl
theorem ahG {B:Nat} {w:World} {N L:List aad} {A:aad} (f:∀ h,abY N h→A h) (s:Sat B w (N++L)):Sat B w (A::L):=by
 obtain ⟨h,Hh,hs⟩:=s
 obtain ⟨k1,k2,a,e,g1,g2⟩:=aal.1 hs
 exact ⟨h,Hh,k1,k2,a,e,f _ g1,g2⟩
section
variable (S:Shp)
def chL (n:Nat):Option (Ch S.T S.M)→List (Nat×Ch S.T S.M)
 | none =>[]
 | some c =>[(n,c)]
def opL:Nat→List (Fl S.T S.M)→List V×List (Nat×Ch S.T S.M)
 | _,[] =>([],[])
 | n,f::l =>((opF S.kt.vw n (.f f)).1::(opL (n+1) l).1,chL S n (opF S.kt.vw n (.f f)).2++(opL (n+1) l).2)
def dfS:(s:Sh)→shT S.T S.M s
 | .i _ =>(0:Int)
 | .b =>false
 | .own c =>S.df c
 | .row _ =>[]
 | .ro _ =>[]
 | .rr _ =>[]
 | .mach =>S.nilM
 | .o =>()
 | .mp .. =>fun _ =>none
def aye (H:S.kt.H) (s:Sh) (v:V):Option (shT S.T S.M s×S.kt.H) :=
 match asm S.kt H (vw1 S.T S.M s (dfS S s)) v with
 | some (f,H') =>match bk1 S.T S.M s f with
  | some x =>some (x,H')
  | none =>none
 | none =>none
def roZ (Z:S.kt.H) (s:Sh) (v:V):Option (shT S.T S.M s) :=
 match s with
 | .ro c =>match v with
  | .sl id =>match get Z id with
   | some (.ro c' xs) =>am8 c' c xs
   | _ =>none
  | _ =>none
 | _ =>none
def aJy (Z H:S.kt.H) (s:Sh) (v:V):Option (shT S.T S.M s×S.kt.H) :=
 match aye S H s v with
 | some r =>some r
 | none =>match roZ S Z s v with
  | some x =>some (x,H)
  | none =>none
end
section
variable {S:Shp} {B:Nat} {w:World}
theorem dHa {ρ:Env} (H H':List (Nat×Ch S.T S.M)):dH S.kt ρ (H++H')=dH S.kt ρ H++dH S.kt ρ H':=by simp [dH]
theorem apq {n:Nat} {f:Fl S.T S.M} {v:Value} {ρ:Env} {Y:List aad} {X:Env→List aad} (hX:∀ ρ ρ',aay n ρ ρ'→X ρ=X ρ') (s:Sat B w (pcS S.kt f v::(Y++X ρ))) :
  ∃ ρ',aay n ρ ρ'∧v=aau ρ' (opF S.kt.vw n (.f f)).1∧Sat B w (Y++(dH S.kt ρ' (chL S n (opF S.kt.vw n (.f f)).2)++X ρ')):=by
 obtain ⟨h,Hh,k1,k2,a,e,hA,hL⟩:=s
 obtain ⟨ρ',ha,hv,hd⟩:=azx (K:=S.kt) (ρ:=ρ) (n:=n) (f:=.f f) (Nat.zero_le _) hA
 refine ⟨ρ',ha,hv,?_⟩
 rw [hX ρ ρ' ha] at hL
 cases hc:(opF S.kt.vw n (.f f)).2 with
 | none =>
  have:Sat B w (pcS S.kt f v::(Y++X ρ')):=⟨h,Hh,k1,k2,a,e,hA,hL⟩
  exact this.imp Ent.drop
 | some c =>
  rw [hc] at hd
  have:Sat B w (acg S.kt ρ' n c::(Y++X ρ')):=⟨h,Hh,k1,k2,a,e,hd,hL⟩
  exact this.perm (List.perm_middle (l₁:=Y)).symm
theorem avM {n:Nat} {f:Fl S.T S.M} {ρ ρ':Env} (h:aay (n+1) ρ ρ'):dH S.kt ρ (chL S n (opF S.kt.vw n (.f f)).2)=dH S.kt ρ' (chL S n (opF S.kt.vw n (.f f)).2):=by
 cases hc:(opF S.kt.vw n (.f f)).2 with
 | none =>rfl
 | some c =>
  have:=(aig (K:=S.kt) (n:=n) (f:=.f f) (Nat.zero_le _)).2 c hc
  refine ab3 h _ ?_
  exact aqn ⟨aqn ⟨Nat.le_refl _,Nat.le_succ_of_le this⟩,Nat.zero_le _⟩
theorem alF:∀ {l:List (Fl S.T S.M)} {n:Nat} {ρ ρ':Env},aay (n+l.length) ρ ρ'→aag ρ (opL S n l).1=aag ρ' (opL S n l).1∧dH S.kt ρ (opL S n l).2=dH S.kt ρ' (opL S n l).2
 | [],_,_,_,_ =>⟨rfl,rfl⟩
 | f::l,n,ρ,ρ',a =>by
  have a':aay (n+1+l.length) ρ ρ':=a.le (by simp only [List.length_cons]; omega)
  obtain ⟨t3,t4⟩:=alF a'
  have htop:=(aig (K:=S.kt) (n:=n) (f:=.f f) (Nat.zero_le _)).1
  simp only [opL,aag,dHa]
  rw [abf (a.le (by simp only [List.length_cons]; omega)) _ htop,t3,avM (a.le (by simp only [List.length_cons]; omega)),t4]
  exact ⟨rfl,rfl⟩
theorem azw:∀ {l:List (Fl S.T S.M)} {n:Nat} {us:List Value} {ρ:Env} {Y:List aad} {X:Env→List aad},(∀ ρ ρ',aay n ρ ρ'→X ρ=X ρ')→Sat B w (fsS (pcS S.kt) l us++(Y++X ρ)) →
  ∃ ρ',aay n ρ ρ'∧us=aag ρ' (opL S n l).1∧Sat B w (Y++(dH S.kt ρ' (opL S n l).2++X ρ'))
 | [],n,us,ρ,Y,X,hX,s =>by
  have:=aja (pc:=pcS S.kt) (A:=fun _ =>True) (abj (p:=fun _ =>True) s fun _ =>trivial)
  cases us with
  | nil =>exact ⟨ρ,aay.refl _ _,rfl,s⟩
  | cons u us =>cases this
 | f::l,n,us,ρ,Y,X,hX,s =>by
  have hlen:=aja (pc:=pcS S.kt) (A:=fun _ =>True) (abj (p:=fun _ =>True) s fun _ =>trivial)
  cases us with
  | nil =>cases hlen
  | cons u us =>
   obtain ⟨ρ1,a1,e1,s1⟩:=apq (Y:=fsS (pcS S.kt) l us++Y) (X:=X) hX (by
    rw [List.append_assoc]; exact s)
   have hX1:∀ ρ ρ',aay (n+1) ρ ρ'→(fun ρ =>dH S.kt ρ (chL S n (opF S.kt.vw n (.f f)).2)++X ρ) ρ=(fun ρ =>dH S.kt ρ (chL S n (opF S.kt.vw n (.f f)).2)++X ρ) ρ':=fun ρ ρ' h =>by
    show _++_=_++_
    rw [avM h,hX _ _ (h.le (Nat.le_succ n))]
   rw [List.append_assoc] at s1
   obtain ⟨ρ2,a2,e2,s2⟩:=azw (n:=n+1) (X:=fun ρ =>dH S.kt ρ (chL S n (opF S.kt.vw n (.f f)).2)++X ρ) hX1 s1
   have htop:=(aig (K:=S.kt) (n:=n) (f:=.f f) (Nat.zero_le _)).1
   refine ⟨ρ2,a1.trans a2 (Nat.le_succ n),?_,?_⟩
   ·simp only [opL,aag]
    rw [e1,← e2,abf a2 _ htop]
   ·simp only [opL,dHa]
    refine s2.perm (List.Perm.append_left _ ?_)
    rw [List.append_assoc]
    exact ac6 _ _ _
theorem axY {n:Nat} {f:Fl S.T S.M} {X:Env→List aad} (hX:∀ ρ ρ',aay n ρ ρ'→X ρ=X ρ'):∀ ρ ρ',aay (n+1) ρ ρ'→(fun ρ =>dH S.kt ρ (chL S n (opF S.kt.vw n (.f f)).2)++X ρ) ρ=(fun ρ =>dH S.kt ρ (chL S n (opF S.kt.vw n (.f f)).2)++X ρ) ρ':=fun ρ ρ' h =>by
 show _++_=_++_
 rw [avM h,hX _ _ (h.le (Nat.le_succ n))]
theorem aIy {n m:Nat} {l:List (Fl S.T S.M)} (hm:l.length=m) {X:Env→List aad} (hX:∀ ρ ρ',aay n ρ ρ'→X ρ=X ρ'):∀ ρ ρ',aay (n+m) ρ ρ'→(fun ρ =>dH S.kt ρ (opL S n l).2++X ρ) ρ=(fun ρ =>dH S.kt ρ (opL S n l).2++X ρ) ρ':=fun ρ ρ' h =>by
 subst hm
 show _++_=_++_
 rw [(alF h).2,hX _ _ (h.le (Nat.le_add_right ..))]
theorem ahr {H H':S.kt.H} {s0:Sh} {v:V} {x:shT S.T S.M s0} (h:aye S H s0 v=some (x,H')) {ρ:Env} {X:List aad} (s:Sat B w (dH S.kt ρ H++X)):Sat B w (pcS S.kt (vw1 S.T S.M s0 x) (aau ρ v)::(dH S.kt ρ H'++X)):=by
 unfold aye at h
 split at h
 ·rename_i f H1 hf
  split at h
  ·rename_i y hy
   cases h
   rw [aAN _ _ hy]
   exact aqd _ _ _ _ _ hf ρ X B w s
  ·cases h
 ·cases h
end
section
variable {S:Shp} {B:Nat} {w:World} {ρ:Env}
theorem aE9 {id c:Nat} {xs:List (S.T c)} {H:S.kt.H} (hg:get H id=some (.ro c xs)) {X:List aad} (s:Sat B w (dH S.kt ρ H++X)):Sat B w (pcS S.kt (.ro c xs) (aau ρ (.sl id))::(dH S.kt ρ H++X)):=by
 have hv:=ai9 (K:=S.kt) s (.inr hg)
 obtain ⟨h0,H0,t0⟩:=s
 refine ⟨h0,H0,?_⟩
 obtain ⟨j1,j2,a1,e1,⟨_,m2⟩,mL⟩:=aaO (ρ:=ρ) hg h0 t0
 obtain ⟨p,hp,hΦ⟩:=m2
 have hpp:∀ b o x,p b o=some x→(∃ v,x=.look v)∧h0 b o=some x:=fun b o x hx =>⟨(hp b o x hx).1,by rw [e1]; unfold ac7; rw [(hp b o x hx).2]⟩
 refine ⟨p,h0,fun b o =>?_,?_,aaI.2 (show pcW S.kt (obS S.kt) (rwS S.kt) (.ro c xs) (aau ρ (.sl id)) p from ⟨_,_,hv,p,fun b o x hx =>⟨(hpp b o x hx).1,hx⟩,hΦ⟩),t0⟩
 ·cases hpb:p b o with
  | none =>exact .inl rfl
  | some x =>
   obtain ⟨⟨v,rfl⟩,h2⟩:=hpp b o x hpb
   exact .inr (.inr ⟨v,rfl,h2⟩)
 ·funext b o
  unfold ac7
  cases hpb:p b o with
  | none =>rfl
  | some x =>exact (hpp b o x hpb).2
theorem aAS {Z H H':S.kt.H} {s0:Sh} {v:V} {x:shT S.T S.M s0} (h:aJy S Z H s0 v=some (x,H')) {X:List aad} (s:Sat B w (dH S.kt ρ H++(dH S.kt ρ Z++X))):Sat B w (pcS S.kt (vw1 S.T S.M s0 x) (aau ρ v)::(dH S.kt ρ H'++(dH S.kt ρ Z++X))):=by
 unfold aJy at h
 split at h
 ·rename_i h1; cases h; exact ahr h1 s
 ·split at h
  ·rename_i y hy
   cases h
   cases s0 with
   | ro c =>
    cases v with
    | sl id =>
     have hy':(match get Z id with | some (.ro c' xs) =>am8 c' c xs | _ =>none)=some x:=hy
     cases hg:get Z id with
     | none =>rw [hg] at hy'; exact absurd hy' (by simp)
     | some ch =>
      rw [hg] at hy'
      cases ch with
      | ro c' xs =>
       obtain ⟨e,h2⟩:=ago hy'
       subst e
       subst h2
       have s1:Sat B w (dH S.kt ρ Z++(dH S.kt ρ H++X)):=s.perm (ac6 _ _ _)
       exact (aE9 hg s1).perm (List.Perm.cons _ (ac6 _ _ _))
      | _ =>exact absurd hy' (by simp)
    | _ =>exact (by have hy':(none:Option _)=some x:=hy; cases hy')
   | _ =>exact (by have hy':(none:Option _)=some x:=hy; cases hy')
  ·cases h
end
section
variable {K:KT} {B:Nat} {w:World} {ρ:Env}
theorem aCK {H:KT.H K} {e j c:Nat} {i:Int} {xs:List (K.T c)} {X:List aad} (hel:get H e=some (.elt j i (K.sz c))) (hg:get H j=some (.row c xs)) (s:Sat B w (dH K ρ H++X)) :
  Sat B w (acg K ρ e (.cells ((K.vw c (atL (K.df c) xs i)).map .f))::acg K ρ j (.gap c xs i e)::(dH K ρ (del H j)++X)):=by
 obtain ⟨hi,b,o2,hA,hp⟩:=at7 s hel
 obtain ⟨hn,vss,h2,h3,s2⟩:=aku s hg
 rw [hn] at hi
 have hxi:=ae0 (d:=K.df c) hi
 have hlt:i.toNat<vss.length:=by omega
 have hvs:vss[i.toNat]?=some vss[i.toNat]:=List.getElem?_eq_getElem hlt
 have hvl:=h3 _ (List.getElem_mem hlt)
 obtain ⟨hh,Hh,k1,k2,a,e1,⟨r1,r2,r3,r4⟩,hL⟩:=s2
 rcases r4 with ⟨r4,_⟩ | ⟨b',o',spare,hA',hsp,hpts⟩
 ·rw [r4] at hA; cases hA
 ·rw [hA] at hA'
  cases hA'
  obtain ⟨N,p1,p2⟩:=ahH (pc:=pcS K) hxi hvs
  have hfl:=adU h3
  have hlow:i.toNat*K.sz c+K.sz c≤vss.flatten.length:=by
   rw [hfl]
   have:(i.toNat+1)*K.sz c≤vss.length*K.sz c:=Nat.mul_le_mul_right _ hlt
   rw [Nat.add_mul] at this; omega
  have hmid:(vss.flatten.drop (i.toNat*K.sz c)).take (K.sz c)=vss[i.toNat]:=by
   apply List.ext_getElem?
   intro q
   by_cases hq:q<K.sz c
   ·rw [List.getElem?_take_of_lt hq,List.getElem?_drop]
    rw [aj6 h3 hvs (v:=(vss[i.toNat])[q]'(by omega)) (List.getElem?_eq_getElem _),List.getElem?_eq_getElem]
   ·rw [List.getElem?_eq_none (by rw [List.length_take,List.length_drop]; omega),List.getElem?_eq_none (by omega)]
  have e2:vss.flatten++spare=vss.flatten.take (i.toNat*K.sz c)++(vss[i.toNat]++(vss.flatten.drop (i.toNat*K.sz c+K.sz c)++spare)):=by
   rw [← hmid,← List.drop_drop,← List.append_assoc (List.take _ _),← List.append_assoc,List.append_assoc (List.take (i.toNat*K.sz c) _),List.take_append_drop,List.take_append_drop]
  have t1:Sat B w (pts b o2 (vss.flatten.take (i.toNat*K.sz c)++(vss[i.toNat]++(vss.flatten.drop (i.toNat*K.sz c+K.sz c)++spare)))::(act K (pcS K) c xs vss++(dH K ρ (del H j)++X))):=by
   rw [← e2]; exact ⟨hh,Hh,k1,k2,a,e1,hpts,hL⟩
  have t2:=t1.imp amG
  have htl:(vss.flatten.take (i.toNat*K.sz c)).length=i.toNat*K.sz c:=by rw [List.length_take]; omega
  rw [htl] at t2
  have t3:=(t2.perm (List.Perm.swap ..)).imp amG
  rw [hvl] at t3
  have t4:Sat B w ((pts b (o2+i.toNat*K.sz c) vss[i.toNat]::fsS (pcS K) (K.vw c (atL (K.df c) xs i)) vss[i.toNat])++((pts b o2 (vss.flatten.take (i.toNat*K.sz c))::pts b (o2+i.toNat*K.sz c+K.sz c) (vss.flatten.drop (i.toNat*K.sz c+K.sz c)++spare)::N)++(dH K ρ (del H j)++X))):=by
   refine t3.perm ?_
   simp only [List.cons_append]
   refine List.Perm.cons _ ?_
   refine (List.Perm.swap ..).trans ?_
   refine List.Perm.trans ?_ (List.perm_middle).symm
   refine List.Perm.cons _ ?_
   refine List.Perm.trans ?_ (List.perm_middle).symm
   refine List.Perm.cons _ ?_
   exact (p1.append_right _).trans (by rw [List.append_assoc])
  have t5:Sat B w (acg K ρ e (.cells ((K.vw c (atL (K.df c) xs i)).map .f))::((pts b o2 (vss.flatten.take (i.toNat*K.sz c))::pts b (o2+i.toNat*K.sz c+K.sz c) (vss.flatten.drop (i.toNat*K.sz c+K.sz c)++spare)::N)++(dH K ρ (del H j)++X))):=by
   refine ahG (fun k hk =>⟨vss[i.toNat],?_⟩) t4
   show abY (pts (ρ.p e).1 (ρ.p e).2 vss[i.toNat]::fsS (fS K ρ) (List.map Fd.f (K.vw c (atL (K.df c) xs i))) vss[i.toNat]) k
   rw [hp,apM (pcS K) (fS K ρ) (fun x v =>rfl)]
   exact hk
  have t6:=t5.perm (List.perm_middle (l₁:=pts b o2 (vss.flatten.take (i.toNat*K.sz c))::pts b (o2+i.toNat*K.sz c+K.sz c) (vss.flatten.drop (i.toNat*K.sz c+K.sz c)++spare)::N) (l₂:=dH K ρ (del H j)++X)).symm
  have t7:Sat B w (acg K ρ j (.gap c xs i e)::(acg K ρ e (.cells ((K.vw c (atL (K.df c) xs i)).map .f))::(dH K ρ (del H j)++X))):=by
   refine ahG (fun k hk =>?_) t6
   exact ⟨b,o2,vss,spare,N,hi,⟨hA,hn,hp⟩,⟨by omega,h3⟩,⟨r2,r3,hsp⟩,fun x' vs' =>p2 x' vs',hk⟩
  exact t7.perm (List.Perm.swap ..)
theorem az2 {H H1:KT.H K} {e j c:Nat} {i:Int} {xs:List (K.T c)} {fs:List (Fd K.T K.M)} {l:List (Fl K.T K.M)} {x:K.T c} {X:List aad} (hg:get H j=some (.gap c xs i e)) (he:get (del H j) e=some (.cells fs))
  (hl:auH K (asm K) (del (del H j) e) (K.vw c (K.df c)) fs=some (l,H1)) (hx:K.bk c l=some x) (s:Sat B w (dH K ρ H++X)) :
  Sat B w (acg K ρ e (.elt j i (K.sz c))::acg K ρ j (.row c (xs.set i.toNat x))::(dH K ρ H1++X)):=by
 have s0:=s.imp (aaO (ρ:=ρ) hg)
 have s1:Sat B w (dH K ρ (del H j)++(acg K ρ j (.gap c xs i e)::X)):=s0.perm (List.perm_middle (l₁:=dH K ρ (del H j))).symm
 obtain ⟨vs,s2⟩:=ag3 (s1.imp (aaO (ρ:=ρ) he))
 have hlen:=aja s2
 have s3:Sat B w (fsS (fS K ρ) fs vs++(dH K ρ (del (del H j) e)++(pts (ρ.p e).1 (ρ.p e).2 vs::acg K ρ j (.gap c xs i e)::X))):=s2.perm (aap fun f g h1 h2 h3 =>by simp only [h1,h2,h3]; omega)
 have s4:=aiG aqd hl s3
 have hv:(K.vw c x).length=vs.length:=by
  have e1:=K.bk_ok _ _ _ hx
  rw [e1]
  have:=aja (A:=fun _ =>True) (abj s4 fun _ =>trivial)
  exact this
 rw [K.sz_ok] at hv
 rw [← K.bk_ok _ _ _ hx] at s4
 have s5:Sat B w (acg K ρ j (.gap c xs i e)::((pts (ρ.p e).1 (ρ.p e).2 vs::fsS (pcS K) (K.vw c x) vs)++(dH K ρ H1++X))):=s4.perm (aap fun f g h1 h2 h3 =>by simp only [h1,h2,h3]; omega)
 obtain ⟨h',Hh',j1,j2,a',e',⟨b,o,vss,spare,N,hi,⟨hA,hn,hq⟩,⟨hvl,hvz⟩,⟨hc1,hc2,hc3⟩,hperm,hst⟩,hL'⟩:=s5
 have s6:Sat B w ((pts b o (vss.flatten.take (i.toNat*K.sz c))::pts b (o+i.toNat*K.sz c+K.sz c) (vss.flatten.drop (i.toNat*K.sz c+K.sz c)++spare)::N)++((pts (ρ.p e).1 (ρ.p e).2 vs::fsS (pcS K) (K.vw c x) vs)++(dH K ρ H1++X))):=⟨h',Hh',aal.2 ⟨j1,j2,a',e',hst,hL'⟩⟩
 rw [hq] at s6
 have hlt:i.toNat<vss.length:=by omega
 have hvs:vss[i.toNat]?=some vss[i.toNat]:=List.getElem?_eq_getElem hlt
 have hfl:=adU hvz
 have hlow:i.toNat*K.sz c+K.sz c≤vss.flatten.length:=by
  rw [hfl]
  have:(i.toNat+1)*K.sz c≤vss.length*K.sz c:=Nat.mul_le_mul_right _ hlt
  rw [Nat.add_mul] at this; omega
 have htl:(vss.flatten.take (i.toNat*K.sz c)).length=i.toNat*K.sz c:=by rw [List.length_take]; omega
 have s7:Sat B w (pts b (o+i.toNat*K.sz c) vs::pts b (o+i.toNat*K.sz c+K.sz c) (vss.flatten.drop (i.toNat*K.sz c+K.sz c)++spare)::(pts b o (vss.flatten.take (i.toNat*K.sz c))::(fsS (pcS K) (K.vw c x) vs++N)++(dH K ρ H1++X))):=s6.perm (aap fun f g h1 h2 h3 =>by simp only [h1,h2,h3]; omega)
 have s8:=s7.imp (amH (by rw [← hv]))
 have s9:=(s8.perm (List.Perm.swap ..)).imp (amH (by rw [htl]))
 have e2:vss.flatten.take (i.toNat*K.sz c)++(vs++(vss.flatten.drop (i.toNat*K.sz c+K.sz c)++spare))=(vss.set i.toNat vs).flatten++spare:=by
  have:=ait (o:=0) (us:=vs) hvz hvs (by omega)
  have e3:(vss[i.toNat]).take 0++vs++(vss[i.toNat]).drop (0+vs.length)=vs:=by
   have:=hvz _ (List.getElem_mem hlt)
   rw [List.drop_eq_nil_of_le (by omega)]; simp
  rw [e3,Nat.add_zero,← hv] at this
  rw [this]; simp only [List.append_assoc]
 rw [e2] at s9
 have s10:Sat B w ((pts b o ((vss.set i.toNat vs).flatten++spare)::act K (pcS K) c (xs.set i.toNat x) (vss.set i.toNat vs))++(dH K ρ H1++X)):=s9.perm (List.Perm.cons _ ((hperm x vs).symm.append_right _))
 have hz2:∀ v∈vss.set i.toNat vs,v.length=K.sz c:=fun v hv' =>by
  rcases List.mem_or_eq_of_mem_set hv' with e | e
  ·exact hvz v e
  ·rw [e,← hv]
 have s11:Sat B w (acg K ρ j (.row c (xs.set i.toNat x))::(dH K ρ H1++X)):=by
  refine ahG (fun k hk =>?_) s10
  obtain ⟨q1,q2,qa,qe,g1,g2⟩:=hk
  refine ⟨by rw [List.length_set]; exact hn,adl.2 ⟨vss.set i.toNat vs,q1,q2,qa,qe,⟨?_,?_,hc2,.inr ⟨b,o,spare,hA,?_,g1⟩⟩,g2⟩⟩
  ·rw [adU hz2,List.length_set,List.length_set,hvl]
  ·rw [List.length_set]; exact hc1
  ·rw [List.length_set]; exact hc3
 refine abj s11 fun k =>?_
 show avY ρ e j (K.sz c) i
 exact ⟨⟨hi.1,by rw [hn]; exact hi.2⟩,b,o,hA,hq⟩
end
section
variable (K:KT)
def roF:Fl K.T K.M→Bool
 | .ro .. =>true
 | _ =>false
def aKN:Fl K.T K.M→Bool
 | .row .. =>true
 | _ =>false
def aCm (H:KT.H K) (id:Nat):Option (KT.H K) :=
 match get H id with
 | some (.elt j i sz) =>match get H j with
  | some (.row c xs) =>match Nat.beq sz (K.sz c) && ((K.vw c (K.df c)).any (aKN K) || (Nat.ble 2 sz && (K.vw c (K.df c)).any (roF K))) with
   | true =>some ((id,.cells ((K.vw c (atL (K.df c) xs i)).map .f))::(j,.gap c xs i id)::del (del H j) id)
   | false =>none
  | _ =>none
 | _ =>none
def axo (H:KT.H K) (j:Nat):Option (KT.H K) :=
 match get H j with
 | some (.gap c xs i e) =>match get (del H j) e with
  | some (.cells fs) =>match auH K (asm K) (del (del H j) e) (K.vw c (K.df c)) fs with
   | some (l,H1) =>match K.bk c l with
    | some x =>some ((e,.elt j i (K.sz c))::(j,.row c (xs.set i.toNat x))::H1)
    | none =>none
   | none =>none
  | _ =>none
 | _ =>none
def aF6:KT.H K→List Nat
 | [] =>[]
 | p::H =>match p.2 with
  | .gap .. =>p.1::aF6 H
  | _ =>aF6 H
def aqY:List Nat→KT.H K→KT.H K
 | [],H =>H
 | j::l,H =>match axo K H j with
  | some H' =>aqY l H'
  | none =>aqY l H
def aJx (H:KT.H K):KT.H K:=aqY K (aF6 K H) H
def aCJ:KT.H K→List Nat
 | [] =>[]
 | p::H =>match p.2 with
  | .gap c .. =>match (K.ls 3 c).isSome || (K.ls 1 c).isSome with
   | true =>aCJ H
   | false =>p.1::aCJ H
  | _ =>aCJ H
def aKK (H:KT.H K):KT.H K:=aqY K (aCJ K H) H
def azs (H:KT.H K) (v:V):Option (KT.H K) :=
 match v with
 | .ptr id _ =>match aCm K H id with
  | some H1 =>some H1
  | none =>match get H id with
   | some (.elt j _ _) =>match axo K H j with
    | some H1 =>aCm K H1 id
    | none =>none
   | _ =>none
 | _ =>none
end
section
variable {K:KT} {B:Nat} {w:World} {ρ:Env} {X:List aad}
theorem awQ {H H':KT.H K} {id:Nat} (h:aCm K H id=some H') (s:Sat B w (dH K ρ H++X)):Sat B w (dH K ρ H'++X):=by
 unfold aCm at h
 split at h
 ·rename_i j i sz hel
  split at h
  ·rename_i c xs hg
   split at h
   ·rename_i hB
    cases h
    simp only [Bool.and_eq_true] at hB
    obtain rfl:=Nat.eq_of_beq_eq_true hB.1
    have s1:=aCK hel hg s
    have s2:Sat B w (dH K ρ (del H j)++(acg K ρ id (.cells ((K.vw c (atL (K.df c) xs i)).map .f))::acg K ρ j (.gap c xs i id)::X)):=s1.perm (aap fun f g h1 h2 h3 =>by simp only [h1,h2,h3]; omega)
    have s3:=s2.imp (ask (id:=id))
    exact s3.perm (aap fun f g h1 h2 h3 =>by simp only [dH,List.map_cons,h1,h2,h3]; omega)
   ·cases h
  ·cases h
 ·cases h
theorem auc {H H':KT.H K} {j:Nat} (h:axo K H j=some H') (s:Sat B w (dH K ρ H++X)):Sat B w (dH K ρ H'++X):=by
 unfold axo at h
 split at h
 ·rename_i c xs i e hg
  split at h
  ·rename_i fs he
   split at h
   ·rename_i l H1 hl
    split at h
    ·rename_i x hx
     cases h
     exact az2 hg he hl hx s
    ·cases h
   ·cases h
  ·cases h
 ·cases h
theorem amc:∀ {l:List Nat} {H:KT.H K},Sat B w (dH K ρ H++X)→Sat B w (dH K ρ (aqY K l H)++X)
 | [],_,s =>s
 | j::l,H,s =>by
  unfold aqY
  split
  ·rename_i H' h; exact amc (auc h s)
  ·exact amc s
theorem arN {H H':KT.H K} {v:V} (h:azs K H v=some H') (s:Sat B w (dH K ρ H++X)):Sat B w (dH K ρ H'++X):=by
 unfold azs at h
 split at h
 ·split at h
  ·rename_i h1; cases h; exact awQ h1 s
  ·split at h
   ·split at h
    ·rename_i h1; exact awQ h (auc h1 s)
    ·cases h
   ·cases h
 ·cases h
theorem asr {H:KT.H K} (s:Sat B w (dH K ρ H++X)):Sat B w (dH K ρ (aJx K H)++X):=amc s
theorem aGz {H:KT.H K} (s:Sat B w (dH K ρ H++X)):Sat B w (dH K ρ (aKK K H)++X):=amc s
end
end
end Go.Proofs.YtidhehdanppcoaaGreat
