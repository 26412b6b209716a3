/- Evaluation by itself,6: loads,stores,memory of its own. No program occurs here. Evaluation by itself,7: a region that draws its order: what is read may be read first,if it is set aside for the rest of the region. No program occurs here. Evaluation by itself: what lies open is put together again. No program occurs here. Evaluation by itself: rows written,elements pointed at. No program occurs here. Evaluation by itself: aggregates,literal slices,elements,interfaces. No program occurs here. -/
import Derived.Test.YtidhehdanppcoaaGreatCnab
set_option linter.all false
namespace Go.Proofs.YtidhehdanppcoaaGreat
section
open Go Go.RowKit
section
variable (K:KT)
def aJD:Nat→Nat→KT.H K→Nat→Nat→Option (Bool×KT.H K×List V)
 | 0,_,H,_,_ =>some (false,H,[])
 | k+1,n,H,id,o =>match opn K n H id o with
  | some (ch,H',v) =>match Nat.ble (akf v) (n+1) with
   | true =>match Nat.blt id n with
    | true =>match aJD k (n+1) H' id (o+1) with
     | some (ch',H'',l) =>some (ch || ch',H'',v::l)
     | none =>none
    | false =>none
   | false =>none
  | none =>none
end
section
variable {K:KT}
theorem atk:∀ {k n:Nat} {H H':KT.H K} {id o:Nat} {l:List V} {ch:Bool} {ρ:Env} {B:Nat} {w:World} {X:Env→List aad},(ch=true→∀ ρ ρ',aaB n ρ ρ'→X ρ=X ρ')→aJD K k n H id o=some (ch,H',l)→Sat B w (dH K ρ H++X ρ) →
  ∃ ρ',(aaB n ρ ρ'∧(ch=false→ρ'=ρ))∧Sat B w (dH K ρ' H'++X ρ')∧l.length=k∧∀ j v,(aah ρ' l)[j]?=some v→w.cell? ⟨(ρ.p id).1,(ρ.p id).2+o+j,none⟩=some v
 | 0,n,H,H',id,o,l,ch,ρ,B,w,X,hX,h,s =>by
  cases h
  exact ⟨ρ,⟨aaB.refl _ _,fun _ =>rfl⟩,s,rfl,fun j v hj =>by simp [aah] at hj⟩
 | k+1,n,H,H',id,o,l,ch,ρ,B,w,X,hX,h,s =>by
  unfold aJD at h
  split at h
  ·rename_i ch1 H1 v h1
   split at h
   ·rename_i ht
    split at h
    ·rename_i hid
     split at h
     ·rename_i ch2 H2 l2 h2
      cases h
      have ht':akf v≤n+1:=Nat.le_of_ble_eq_true ht
      have hid':id<n:=Nat.le_of_ble_eq_true hid
      obtain ⟨ρ1,⟨a1,e1⟩,s1,c1⟩:=avj h1 (fun hc ρ' =>hX (by rw [hc]; rfl) _ ρ') s
      obtain ⟨ρ2,⟨a2,e2⟩,s2,hl,c2⟩:=atk (fun hc ρ ρ' ha =>hX (by rw [hc,Bool.or_true]) _ _ (ha.le (Nat.le_succ n))) h2 s1
      refine ⟨ρ2,⟨a1.trans a2 (Nat.le_succ n),fun hc =>?_⟩,s2,by simp [hl],fun j u hj =>?_⟩
      ·simp only [Bool.or_eq_false_iff] at hc
       rw [e2 hc.2,e1 hc.1]
      ·cases j with
       | zero =>
        simp only [aah,List.getElem?_cons_zero,Option.some.injEq] at hj
        rw [← hj,← aa5 a2 v ht']
        exact c1
       | succ j =>
        simp only [aah,List.getElem?_cons_succ] at hj
        have:=c2 j u hj
        rw [← (a1 id hid').1] at this
        rw [← this]; congr 2; omega
     ·cases h
    ·cases h
   ·cases h
  ·cases h
end
section
variable (K:KT)
def aLh (P:Program) (R:aa6) (n:Nat) (Z H:KT.H K) (T:TypeId) (x:V):Option (Nat×KT.H K×V) :=
 match x with
 | .ptr id o =>match agk P T with
  | some none =>match opn K n H id o with
   | some (false,H',v) =>some (n,H',v)
   | some (true,H',v) =>match Nat.ble (axO R) n && Nat.ble (agm Z) n with
    | true =>some (n+1,H',v)
    | false =>none
   | none =>none
  | some (some k) =>match aJD K k n H id o with
   | some (false,H',l) =>some (n,H',.agg l)
   | some (true,H',l) =>match Nat.ble (axO R) n && Nat.ble (agm Z) n with
    | true =>some (n+k,H',.agg l)
    | false =>none
   | none =>none
  | none =>none
 | _ =>none
end
section
variable {K:KT} {P:Program} {nt n B:Nat} {W:World} {R:aa6} {Z H:KT.H K} {nx:Nat→KT.H K→V→Prop}
theorem akE {w:World} {b o:Nat} {T:TypeId} {v:Value} (ht:agk P T=some none) (h:w.cell? ⟨b,o,none⟩=some v):(Instr.loadAt T (.pointer (some ⟨b,o,none⟩))).run P w=.ok v w :=
 ald (us:=[v]) ht rfl (fun j u hj =>by
  cases j with
  | zero =>simp at hj; subst hj; exact h
  | succ j =>simp at hj) rfl
theorem auG {o:Oper} {T:TypeId} {x:Operand} {u v:V} {n':Nat} {H':KT.H K} (ho:o.op=.load T x) (hx:evO R x=some u) (h:aLh K P R n Z H T u=some (n',H',v)) (hn:nx n' H' v):afz K P nt B W o R n Z H nx:=fun F ρ a w s =>by
 obtain ⟨d,op,ty,ps,af,g⟩:=o
 simp only at ho
 subst ho
 have ex:=(aaO (ρ:=ρ) hx).eval s.regs
 unfold aLh at h
 split at h
 ·rename_i id o'
  have fin:∀ (ρ':Env) (vv:V) (nn:Nat) (HH:KT.H K),n≤nn→aaB n ρ ρ'→dR ρ' R=dR ρ R→Sat B w (dS K ρ' Z HH F)→nx nn HH vv→(Instr.loadAt T (.pointer (some ⟨(ρ.p id).1,(ρ.p id).2+o',none⟩))).run P w=.ok (aay ρ' vv) w →
    akZ P (fun (x:Nx K) w' =>(aaB n ρ x.ρ∧n≤x.n∧dR x.ρ R=dR ρ R∧nx x.n x.H x.v)∧Cls B W (dS K x.ρ Z x.H F) w') (fun x =>aay x.ρ x.v) ((execOp a.eval ⟨d,.load T x,ty,ps,af,g⟩).run P w):=by
   intro ρ' vv nn HH h1 h2 h3 h4 h5 h6
   have:(execOp a.eval ⟨d,.load T x,ty,ps,af,g⟩).run P w=.ok (.value (aay ρ' vv)) w:=by
    simp only [execOp,ex,aay]
    rw [aaa h6]; rfl
   rw [this]
   exact ⟨⟨ρ',nn,HH,vv⟩,rfl,⟨h2,h1,h3,h5⟩,s.below,s.lo,h4⟩
  split at h
  ·rename_i hT
   split at h
   ·rename_i h1
    cases h
    obtain ⟨ρ',⟨ha,he⟩,s1,hc⟩:=avj (X:=tl K Z F) h1 (fun e =>by cases e) s.sat
    obtain rfl:=he rfl
    exact fin _ _ _ _ (Nat.le_refl _) ha rfl s1 hn (akE hT hc)
   ·rename_i h1
    split at h
    ·rename_i hR
     cases h
     simp only [Bool.and_eq_true] at hR
     obtain ⟨ρ',⟨ha,he⟩,s1,hc⟩:=avj (X:=tl K Z F) h1 (fun _ ρ' ha =>adP (Nat.le_of_ble_eq_true hR.2) ha) s.sat
     exact fin _ _ _ _ (Nat.le_succ _) ha (aco ha _ (Nat.le_of_ble_eq_true hR.1)).symm s1 hn (akE hT hc)
    ·cases h
   ·cases h
  ·rename_i k hT
   split at h
   ·rename_i h1
    cases h
    obtain ⟨ρ',⟨ha,he⟩,s1,hl,hc⟩:=atk (X:=tl K Z F) (fun e =>by cases e) h1 s.sat
    obtain rfl:=he rfl
    exact fin _ _ _ _ (Nat.le_refl _) ha rfl s1 hn (ald hT (by rw [aaS]; simpa using hl) hc rfl)
   ·rename_i h1
    split at h
    ·rename_i hR
     cases h
     simp only [Bool.and_eq_true] at hR
     obtain ⟨ρ',⟨ha,he⟩,s1,hl,hc⟩:=atk (X:=tl K Z F) (fun _ _ _ ha =>adP (Nat.le_of_ble_eq_true hR.2) ha) h1 s.sat
     exact fin _ _ _ _ (Nat.le_add_right ..) ha (aco ha _ (Nat.le_of_ble_eq_true hR.1)).symm s1 hn (ald hT (by rw [aaS]; simpa using hl) hc rfl)
    ·cases h
   ·cases h
  ·cases h
 ·cases h
end
def aaG:V→List V
 | .agg l =>l
 | v =>[v]
section
variable {K:KT}
def scV (H:KT.H K):V→Bool
 | .agg _ =>false
 | .tup _ =>false
 | .c v =>aei v
 | .mc id =>match get H id with
  | some (.mach _) =>true
  | _ =>false
 | _ =>true
def aCY {T:Nat→Type} {M:Type} (fs:List (Fd T M)) (o:Nat) (us:List V):List (Fd T M):=fs.take o++us.map .v++fs.drop (o+us.length)
theorem atF {ρ:Env}:∀ {us:List V} {o:Nat} {fs:List (Fd K.T K.M)} {vs:List Value} {L:List aad} {h:Hp},o+us.length≤fs.length→fs.length=vs.length→abW (fsS (fS K ρ) fs vs++L) h →
  abW (fsS (fS K ρ) (aCY fs o us) (vs.take o++aah ρ us++vs.drop (o+us.length))++L) h
 | us,o+1,[],vs,L,h,h1,_,_ =>by simp at h1
 | us,o+1,f::fs,[],L,h,_,h2,_ =>by simp at h2
 | us,o+1,f::fs,v::vs,L,h,h1,h2,s =>by
  have e1:aCY (f::fs) (o+1) us=f::aCY fs o us:=by simp [aCY,Nat.add_right_comm o 1]
  have e2:(v::vs).take (o+1)++aah ρ us++(v::vs).drop (o+1+us.length)=v::(vs.take o++aah ρ us++vs.drop (o+us.length)):=by simp [Nat.add_right_comm o 1]
  rw [e1,e2]
  simp only [fsS,List.cons_append] at s ⊢
  exact abp (fun k hk =>atF (by simp at h1; omega) (by simpa using h2) hk) s
 | [],0,fs,vs,L,h,_,_,s =>by simpa [aCY,aah] using s
 | u::us,0,[],vs,L,h,h1,_,_ =>by simp at h1
 | u::us,0,f::fs,[],L,h,_,h2,_ =>by simp at h2
 | u::us,0,f::fs,v::vs,L,h,h1,h2,s =>by
  have e1:aCY (f::fs) 0 (u::us)=.v u::aCY fs 0 us:=by simp [aCY]
  have e2:(v::vs).take 0++aah ρ (u::us)++(v::vs).drop (0+(u::us).length)=aay ρ u::(vs.take 0++aah ρ us++vs.drop (0+us.length)):=by simp [aah]
  rw [e1,e2]
  simp only [fsS,List.cons_append] at s ⊢
  have s1:=Ent.drop h s
  exact arl (p:=aay ρ u=aay ρ u) rfl h (atF (us:=us) (o:=0) (by simp at h1 ⊢; omega) (by simpa using h2) s1)
theorem aAE {ρ:Env} {H:KT.H K} {X:List aad} {B:Nat} {w:World} {v:V} (h:scV H v=true) (s:Sat B w (dH K ρ H++X)):aei (aay ρ v)=true:=by
 cases v<;>first | rfl | (cases h; done) | exact h | skip
 rename_i id
 simp only [scV] at h
 split at h
 ·rename_i m hg
  obtain ⟨hh,Hh,k1,k2,a,e,hA,hL⟩:=s.imp (aaV (ρ:=ρ) hg)
  have hA':pcS K (.mach m) (ρ.v id) k1:=hA
  rw [aax] at hA'
  simp only [pcW] at hA'
  simp only [aay]
  split at hA'
  ·rw [hA']; rfl
  ·obtain ⟨q,e',_⟩:=hA'; rw [e']; rfl
 ·cases h
theorem auP {v:Value} (h:aei v=true):v.cells.toList=[v]:=by cases v<;>simp [aei] at h<;>rfl
theorem anC {ρ:Env} {H:KT.H K} {X:List aad} {B:Nat} {w:World} {v:V} (h:(aaG v).all (scV H)=true) (s:Sat B w (dH K ρ H++X)):(aay ρ v).cells.toList=aah ρ (aaG v)∧(aah ρ (aaG v)).all aei=true:=by
 have h2:(aah ρ (aaG v)).all aei=true:=by
  rw [aaS,List.all_map,List.all_eq_true]
  intro x hx
  exact aAE (List.all_eq_true.1 h x hx) s
 refine ⟨?_,h2⟩
 cases v with
 | agg l =>simp [aay,Value.cells,aaG]
 | _ =>exact auP (by simpa [aaG,aah] using h2)
end
section
variable (K:KT)
def aLg (P:Program) (H:KT.H K) (T:TypeId) (x u:V):Option (KT.H K) :=
 match x with
 | .ptr id o =>match get H id with
  | some (.cells fs) =>match Nat.beq (P.cellsOf T) (aaG u).length && Nat.blt 0 (aaG u).length && Nat.ble (o+(aaG u).length) fs.length && (aaG u).all (scV H) with
   | true =>some ((id,.cells (aCY fs o (aaG u)))::del H id)
   | false =>none
  | _ =>none
 | _ =>none
end
section
variable {K:KT} {P:Program} {nt n B:Nat} {W:World} {R:aa6} {Z H:KT.H K} {nx:Nat→KT.H K→V→Prop}
theorem arV {o:Oper} {T:TypeId} {x y:Operand} {u v:V} {H':KT.H K} (ho:o.op=.store T x y) (hx:evO R x=some u) (hy:evO R y=some v) (h:aLg K P H T u v=some H') (hn:nx n H' (.c undef)):afz K P nt B W o R n Z H nx:=fun F ρ a w s =>by
 obtain ⟨d,op,ty,ps,af,g⟩:=o
 simp only at ho
 subst ho
 have ex:=(aaO (ρ:=ρ) hx).eval s.regs
 have ey:=(aaO (ρ:=ρ) hy).eval s.regs
 unfold aLg at h
 split at h
 ·rename_i id o'
  split at h
  ·rename_i fs hg
   split at h
   ·rename_i hB
    cases h
    simp only [Bool.and_eq_true] at hB
    obtain ⟨⟨⟨b1,b2⟩,b3⟩,b4⟩:=hB
    have b1':=Nat.eq_of_beq_eq_true b1
    have b2':0<(aaG v).length:=Nat.le_of_ble_eq_true b2
    have b3':=Nat.le_of_ble_eq_true b3
    obtain ⟨hcl,hsc⟩:=anC b4 s.sat
    obtain ⟨vs,s2⟩:=ah6 (s.sat.imp (aaV (ρ:=ρ) hg))
    have hl:=akl s2
    have hlen:(aah ρ (aaG v)).length=(aaG v).length:=by rw [aaS]; simp
    obtain ⟨w',hr,c1,c2,c3⟩:=aoR (P:=P) (T:=T) (v:=aay ρ v) (W:=W) (o':=(ρ.p id).2+o') (i:=o') (k:=(aaG v).length) (us:=aah ρ (aaG v)) s2 s.below s.lo rfl b1' hlen b2' hcl hsc (by omega)
    have:(execOp a.eval ⟨d,.store T x y,ty,ps,af,g⟩).run P w=.ok .skip w':=by
     simp only [execOp,ex,ey,aay,Instr.storeAt,Instr.sureAddr]
     rw [aaa (a:=()) (w':=w') (by rw [aaa (a:=(⟨(ρ.p id).1,(ρ.p id).2+o',none⟩:Addr)) (w':=w) rfl]; exact hr)]
     rfl
    rw [this]
    refine ⟨⟨ρ,n,_,.c undef⟩,rfl,⟨aaB.refl _ _,Nat.le_refl _,rfl,hn⟩,c1,c2,c3.imp fun h hk =>?_⟩
    obtain ⟨k1,k2,a',e',hp,hq⟩:=hk
    have hq2:=atF (us:=aaG v) (o:=o') b3' hl hq
    have s6:abW ((pts (ρ.p id).1 (ρ.p id).2 (vs.take o'++aah ρ (aaG v)++vs.drop (o'+(aaG v).length))::fsS (fS K ρ) (aCY fs o' (aaG v)) (vs.take o'++aah ρ (aaG v)++vs.drop (o'+(aaG v).length)))++(dH K ρ (del H id)++tl K Z F ρ)) h:=⟨k1,k2,a',e',hp,hq2⟩
    obtain ⟨j1,j2,a'',e'',g1,g2⟩:=aaj.1 s6
    exact ⟨j1,j2,a'',e'',⟨_,g1⟩,g2⟩
   ·cases h
  ·cases h
 ·cases h
end
section
variable (K:KT)
def acG (R:aa6) (n:Nat) (Z H:KT.H K):Bool:=Nat.ble (axO R) n && Nat.ble (agm Z) n && Nat.ble (agm H) n
def aIF (R:aa6) (n:Nat) (Z H:KT.H K) (vs:List V):Option (Nat×KT.H K×V) :=
 match acG K R n Z H && Nat.ble (ajh vs) n with
 | true =>some (n+1,(n,.cells (vs.map .v))::H,.ptr n 0)
 | false =>none
def awg (P:Program) (T:TypeId):Option (List V):=(az1 P T).map fun z =>z.cells.toList.map aC3
end
section
variable {K:KT} {P:Program} {nt n B:Nat} {W:World} {R:aa6} {Z H:KT.H K} {nx:Nat→KT.H K→V→Prop}
theorem ajy {ρ:Env}:∀ {vs:List V} {L:List aad} {h:Hp},abW L h→abW (fsS (fS K ρ) (vs.map .v) (aah ρ vs)++L) h
 | [],_,_,s =>s
 | v::vs,L,h,s =>arl (p:=aay ρ v=aay ρ v) rfl h (ajy (vs:=vs) s)
theorem aBv {o:Oper} {vs:List V} {n':Nat} {H':KT.H K} {v:V} (h:aIF K R n Z H vs=some (n',H',v)) (hn:nx n' H' v)
  (ho:∀ F ρ a w,Sta nt B W (dR ρ R) (dS K ρ Z H F) a w→∃ u T,(execOp a.eval o).run P w=.ok (.value (.pointer (some ⟨w.heap.size,0,none⟩))) (w.alloc (.cells u T))∧u.toList=aah ρ vs):afz K P nt B W o R n Z H nx:=fun F ρ a w s =>by
 unfold aIF at h
 split at h
 ·rename_i hB
  cases h
  simp only [acG,Bool.and_eq_true] at hB
  obtain ⟨⟨⟨b1,b0⟩,b2⟩,b3⟩:=hB
  have b1':=Nat.le_of_ble_eq_true b1
  have b0':=Nat.le_of_ble_eq_true b0
  have b2':=Nat.le_of_ble_eq_true b2
  have b3':=Nat.le_of_ble_eq_true b3
  obtain ⟨u,T,hr,hu⟩:=ho F ρ a w s
  rw [hr]
  have ha:=ajb ρ n (w.heap.size,0)
  refine ⟨⟨ρ.setP n (w.heap.size,0),n+1,_,.ptr n 0⟩,by simp [aay,Env.setP],⟨ha,Nat.le_succ _,(aco ha R b1').symm,hn⟩,aft s.below s.lo _,by simpa using Nat.le_succ_of_le s.lo,?_⟩
  have s1:=s.sat.fresh (cs:=u) (T:=T) s.lo
  refine s1.imp fun h hk =>?_
  obtain ⟨k1,k2,a',e',hp,hq⟩:=hk
  rw [hu,aeI ha vs b3'] at hp
  have hq':abW (dS K (ρ.setP n (w.heap.size,0)) Z H F) k2:=by unfold dS; rw [← acH ha H b2',← adP b0' ha]; exact hq
  have s6:abW ((pts w.heap.size 0 (aah (ρ.setP n (w.heap.size,0)) vs)::fsS (fS K (ρ.setP n (w.heap.size,0))) (vs.map .v) (aah (ρ.setP n (w.heap.size,0)) vs))++dS K (ρ.setP n (w.heap.size,0)) Z H F) h:=⟨k1,k2,a',e',hp,ajy hq'⟩
  obtain ⟨j1,j2,a'',e'',g1,g2⟩:=aaj.1 s6
  exact ⟨j1,j2,a'',e'',⟨_,by simpa [Env.setP] using g1⟩,g2⟩
 ·cases h
theorem azq {o:Oper} {T:TypeId} {vs:List V} {n':Nat} {H':KT.H K} {v:V} (ho:o.op=.alloc T) (hz:awg P T=some vs) (h:aIF K R n Z H vs=some (n',H',v)) (hn:nx n' H' v):afz K P nt B W o R n Z H nx:=by
 refine aBv h hn fun F ρ a w s =>?_
 obtain ⟨d,op,ty,ps,af,g⟩:=o
 simp only at ho
 subst ho
 simp only [awg,Option.map_eq_some_iff] at hz
 obtain ⟨z,hz,rfl⟩:=hz
 refine ⟨z.cells,T,?_,?_⟩
 ·simp only [execOp,Instr.alloc]
  rw [aaa (a:=Value.pointer (some ⟨w.heap.size,0,none⟩)) (w':=w.alloc (.cells z.cells T)) (by rw [aaa (asI hz)]; exact aaa (asg T z))]
  rfl
 ·rw [aaS,List.map_map]
  have:(aay ρ ∘ aC3)=id:=by funext x; exact ajF ρ x
  rw [this,List.map_id]
theorem aDr {o:Oper} {T:TypeId} {x:Operand} {u:V} {n':Nat} {H':KT.H K} {v:V} (ho:o.op=.box T x) (hx:evO R x=some u) (hs:(aaG u).all (scV H)=true) (h:aIF K R n Z H (aaG u)=some (n',H',v)) (hn:nx n' H' v):afz K P nt B W o R n Z H nx:=by
 refine aBv h hn fun F ρ a w s =>?_
 obtain ⟨d,op,ty,ps,af,g⟩:=o
 simp only at ho
 subst ho
 have ex:=(aaO (ρ:=ρ) hx).eval s.regs
 refine ⟨(aay ρ u).cells,T,?_,(anC hs s.sat).1⟩
 simp only [execOp,ex,Instr.box]
 rw [aaa (a:=Value.pointer (some ⟨w.heap.size,0,none⟩)) (w':=w.alloc (.cells (aay ρ u).cells T)) (by rw [aaa (asg T _)]; rfl)]
 rfl
end
section
variable {P:Program} {ops:Array Oper} {Q:Exit→Act→World→Prop} {Φ Ψ:World→Prop}
def aiD (P:Program) (ops:Array Oper) (Q:Exit→Act→World→Prop) (Ob:Nat→World→World→Prop):Nat→Array Bool→Act→World→Prop
 | 0,listed,a,w =>Region.ready .any ops listed=[]∧NP Q .normal a w
 | f+1,listed,a,w =>(Region.ready .any ops listed=[]→NP Q .normal a w) ∧
  ∀ i∈Region.ready .any ops listed,wpOpIn (rf none) 0 P ops (NP Q) i (fun a' w' =>Ob i w w'∧aiD P ops Q Ob f (listed.setIfInBounds i true) a' w') a w
variable {Ob Ob':Nat→World→World→Prop}
theorem av4 (h:∀ j w w',Ob j w w'→Ob' j w w'):∀ (f:Nat) (listed:Array Bool) (a:Act) (w:World),aiD P ops Q Ob f listed a w→aiD P ops Q Ob' f listed a w
 | 0,_,_,_,hh =>hh
 | f+1,_,_,w,hh =>⟨hh.1,fun i hi =>wpOpIn_mono (fun a' w' ⟨h1,h2⟩ =>⟨h i w w' h1,av4 h f _ a' w' h2⟩) (hh.2 i hi)⟩
theorem azh:∀ (f:Nat) (listed:Array Bool) (a:Act) (w:World),aiD P ops Q Ob f listed a w→wpAnyIn (rf none) 0 P .any ops (NP Q) f listed a w
 | 0,_,_,_,hh =>hh
 | f+1,_,_,_,hh =>⟨hh.1,fun i hi =>wpOpIn_mono (fun a' w' ⟨_,h2⟩ =>azh f _ a' w' h2) (hh.2 i hi)⟩
def akY (ops:Array Oper) (listed:Array Bool):Prop:=∀ k ok,ops[k]?=some ok→listed.getD k false=true→∀ e∈ok.after,Region.binds .any e=true→listed.getD e.on false=true
theorem akY.set {listed:Array Bool} {i:Nat} (h:akY ops listed) (hi:i∈Region.ready .any ops listed):akY ops (listed.setIfInBounds i true):=fun k ok hk hl e he hb =>by
 by_cases hik:i=k
 ·subst hik
  obtain ⟨_,o,ho,hall⟩:=mem_ready.1 hi
  rw [ho] at hk
  cases hk
  exact getD_set_true (hall e he hb)
 ·rw [getD_set_ne false hik] at hl
  exact getD_set_true (h k ok hk hl e he hb)
theorem axl:akY ops (Array.replicate ops.size false):=fun k ok hk hl =>by
 rw [Array.getD_eq_getD_getElem?,Array.getElem?_replicate] at hl
 split at hl<;>cases hl
inductive Desc (ops:Array Oper) (i:Nat):Nat→Prop
 | self:Desc ops i i
 | step {k:Nat} {ok:Oper} {e:Edge} (h:ops[k]?=some ok) (he:e∈ok.after) (hb:Region.binds .any e=true) (hd:Desc ops i e.on):Desc ops i k
theorem Desc.listed {listed:Array Bool} {i k:Nat} (hd:Desc ops i k) (hc:akY ops listed) (hk:listed.getD k false=true):listed.getD i false=true:=by
 induction hd with
 | self =>exact hk
 | step h he hb _ ih =>exact ih (hc _ _ h hk _ he hb)
theorem Desc.ready {listed:Array Bool} {i k:Nat} (hd:Desc ops i k) (hne:k≠i) (hc:akY ops listed) (hk:k∈Region.ready .any ops listed):listed.getD i false=true:=by
 cases hd with
 | self =>exact absurd rfl hne
 | step h he hb hd =>
  obtain ⟨_,o,ho,hall⟩:=mem_ready.1 hk
  rw [ho] at h
  cases h
  exact hd.listed hc (hall _ he hb)
def aey (P:Program) (ops:Array Oper) (Φ:World→Prop) (o:Oper) (v:Value) (a:Act):Prop :=
 ((Region.wanted o (yielded ops a.tmps)=true∧∀ w,Φ w→(execOp a.eval o).run P w=.ok (.value v) w)∨(Region.wanted o (yielded ops a.tmps)=false∧v=undef))∧∀ w,o.about P w a.eval=none
theorem aey.of_same {o:Oper} {v:Value} {a a':Act} (hy:aey P ops Φ o v a) (he:execOp a'.eval o=execOp a.eval o)
  (hw:Region.wanted o (yielded ops a'.tmps)=Region.wanted o (yielded ops a.tmps)) (hb:∀ w,o.about P w a'.eval=o.about P w a.eval):aey P ops Φ o v a':=by
 unfold aey at *
 rw [he,hw]
 exact ⟨hy.1,fun w =>by rw [hb w]; exact hy.2 w⟩
theorem aey.wpOpIn {i:Nat} {o:Oper} {v:Value} {a:Act} (hi:ops[i]?=some o) (hy:aey P ops Φ o v a) {K:Act→World→Prop} {w:World} (hw:Φ w) (h:K (a.put o.dst v) w):wpOpIn (rf none) 0 P ops (NP Q) i K a w:=by
 unfold Go.wpOpIn
 simp only [hi]
 have hab:∀ f,o.about P w a.eval=some f→(rf none).fn f:=fun f hf =>by rw [hy.2 w] at hf; cases hf
 rcases hy.1 with ⟨h1,hv⟩ | ⟨h1,rfl⟩
 ·simp only [h1,if_true,Oper.wpIn,rf,Oper.semAt_none,hv w hw,Oper.uponIn]; exact ⟨hab,h⟩
 ·simp only [h1,Bool.false_eq_true,if_false]; exact ⟨hab,h⟩
theorem aLF {j:Nat} {oi oj:Oper} {v:Value} (hj:ops[j]?=some oj) (hap:oi.apart ops oj=true) (hsi:∀ cs b,oi.op≠.select cs b) (hsj:∀ cs b,oj.op≠.select cs b) {K:Act→World→Prop} {a:Act} {w:World}
  (hy:aey P ops Φ oi v a) (h:wpOpIn (rf none) 0 P ops (NP Q) j K (a.put oi.dst v) w):wpOpIn (rf none) 0 P ops (NP Q) j (fun a' w' =>aey P ops Φ oi v a'∧K (a'.put oi.dst v) w') a w:=by
 obtain ⟨h1,h2,h3⟩:=Oper.apart_spec hap
 have keep:∀ (a:Act),aey P ops Φ oi v a→∀ u,aey P ops Φ oi v (a.put oj.dst u):=fun a hy u =>
  hy.of_same (execOp_put oi hsi a oj.dst u h3) (wanted_put oi a oj.dst u h3) (fun w =>about_put oi w a oj.dst u h3)
 unfold Go.wpOpIn at *
 simp only [hj] at *
 rw [wanted_put oj a oi.dst v h1,about_put oj w a oi.dst v h1] at h
 by_cases hw:Region.wanted oj (yielded ops a.tmps)=true
 ·rw [if_pos hw] at h ⊢
  unfold Oper.wpIn at *
  rw [about_put oj w a oi.dst v h1] at h
  refine ⟨h.1,?_⟩
  replace h:=h.2
  rw [show (rf none).round=none from rfl,Oper.semAt_none] at h ⊢
  rw [execOp_put oj hsj a oi.dst v h1] at h
  generalize (execOp a.eval oj).run P w=res at *
  cases res with
  | halt x w' =>cases x<;>exact h
  | ok x w' =>
   cases x<;>simp only [Oper.uponIn] at h ⊢
   case value u =>rw [Act.put_comm a v u h2] at h; exact ⟨keep a hy u,h⟩
   case skip =>rw [Act.put_comm a v undef h2] at h; exact ⟨keep a hy _,h⟩
   case defer d =>
    have hd:aey P ops Φ oi v { a with defers:=d::a.defers }:=hy.of_same rfl rfl (fun _ =>rfl)
    rw [Act.put_defers,Act.put_comm _ v undef h2] at h
    exact ⟨keep _ hd _,h⟩
   case enter f args =>
    refine ⟨h.1,CallsIn.mono h.2 fun e w'' he =>?_⟩
    cases e with
    | panicked c =>exact he
    | outgrown =>exact he
    | returned u =>simp only at he ⊢; rw [Act.put_comm a v u h2] at he; exact ⟨keep a hy u,he⟩
   case row row args =>exact ⟨h.1,RowsIn.mono h.2 fun u w'' he =>by rw [Act.put_comm a v u h2] at he; exact ⟨keep a hy u,he⟩⟩
   case round l f tmps assign body =>
    refine ⟨h.1,RoundIn.mono h.2 fun e w'' he =>?_⟩
    cases e with
    | panicked c =>exact he
    | outgrown =>exact he
    | returned u =>simp only at he ⊢; rw [Act.put_comm a v u h2] at he; exact ⟨keep a hy u,he⟩
 ·rw [if_neg hw] at h ⊢
  refine ⟨h.1,keep a hy _,?_⟩
  have:=h.2
  rwa [Act.put_comm a v undef h2] at this
theorem asD {i:Nat} {oi:Oper} {v:Value} (hi:ops[i]?=some oi) (hrefl:∀ w,Ob i w w) (hsel:∀ (j:Nat) (o:Oper) cs b,ops[j]?=some o→o.op≠.select cs b)
  (hstep:∀ (listed:Array Bool) (j:Nat),akY ops listed→listed.getD i true=false→j∈Region.ready .any ops listed→j≠i→∀ w w',Ob j w w'→Φ w→Φ w') :
  ∀ (f:Nat) (listed:Array Bool) (a:Act) (w:World),akY ops listed →
   (∀ j oj,ops[j]?=some oj→j≠i→listed.getD j true=false→(∀ e∈oj.after,Region.binds .any e=true→e.on≠i)→oi.apart ops oj=true) →
   i∈Region.ready .any ops listed→aey P ops Φ oi v a→Φ w →
   aiD P ops Q Ob f (listed.setIfInBounds i true) (a.put oi.dst v) w→aiD P ops Q Ob (f+1) listed a w:=by
 intro f
 induction f with
 | zero =>
  intro listed a w _ _ hr hy hw H
  refine ⟨fun h =>(by rw [h] at hr; cases hr),fun j hj =>?_⟩
  by_cases hji:j=i
  ·subst hji; exact hy.wpOpIn hi hw ⟨hrefl w,H⟩
  ·have:=ready_mono hj hji
   rw [H.1] at this
   cases this
 | succ f ih =>
  intro listed a w hcl hfree hr hy hw H
  refine ⟨fun h =>(by rw [h] at hr; cases hr),fun j hj =>?_⟩
  by_cases hji:j=i
  ·subst hji; exact hy.wpOpIn hi hw ⟨hrefl w,H⟩
  ·have h1:=H.2 j (ready_mono hj hji)
   obtain ⟨hjun,oj,hoj,hall⟩:=mem_ready.1 hj
   have hun:=(mem_ready.1 hr).1
   have hnot:∀ e∈oj.after,Region.binds .any e=true→e.on≠i:=fun e he hb heq =>by
    have h1:=hall e he hb
    rw [heq,getD_both hun] at h1
    cases h1
   have h2:=aLF hoj (hfree j oj hoj hji hjun hnot) (fun cs b =>hsel i oi cs b hi) (fun cs b =>hsel j oj cs b hoj) hy h1
   have hfree':∀ k ok,ops[k]?=some ok→k≠i→(listed.setIfInBounds j true).getD k true=false →
     (∀ e∈ok.after,Region.binds .any e=true→e.on≠i)→oi.apart ops ok=true:=fun k ok hk hki hun hno =>by
    refine hfree k ok hk hki ?_ hno
    by_cases hjk:j=k
    ·subst hjk; exact hjun
    ·rw [getD_set_ne true hjk] at hun; exact hun
   refine wpOpIn_mono (fun a' w' h3 =>?_) h2
   obtain ⟨hy',hw',h4⟩:=h3
   refine ⟨hw',ih (listed.setIfInBounds j true) a' w' (hcl.set hj) hfree' (ready_mono hr (Ne.symm hji)) hy' (hstep listed j hcl hun hj hji w w' hw' hw) ?_⟩
   rw [Array.setIfInBounds_comm _ _ hji]
   exact h4
theorem akW {i:Nat} {oi:Oper} {v:Value} {f:Nat} {listed:Array Bool} {a:Act} {w:World} (hi:ops[i]?=some oi) (hrefl:∀ w,Ob i w w) (hB:awk ops listed i=true) (hcl:akY ops listed) (hy:aey P ops (fun _ =>True) oi v a)
  (h:aiD P ops Q Ob f (listed.setIfInBounds i true) (a.put oi.dst v) w):aiD P ops Q Ob (f+1) listed a w:=by
 simp only [awk,Bool.and_eq_true] at hB
 exact asD hi hrefl (Region.noSelect_spec hB.1.1) (fun _ _ _ _ _ _ _ _ _ h =>h) f listed a w hcl (Region.free_spec hi hB.1.2) (by simpa using hB.2) hy trivial h
theorem aCO {i:Nat} {oi:Oper} {v:Value} {f:Nat} {listed:Array Bool} {a:Act} {w:World} (hi:ops[i]?=some oi) (hrefl:∀ w,Ob i w w) (hB:awk ops listed i=true) (hcl:akY ops listed) (hOb:∀ j w w',Ob j w w'→¬ Desc ops i j→Φ w→Φ w') (hy:aey P ops Φ oi v a) (hw:Φ w)
  (h:aiD P ops Q Ob f (listed.setIfInBounds i true) (a.put oi.dst v) w):aiD P ops Q Ob (f+1) listed a w:=by
 simp only [awk,Bool.and_eq_true] at hB
 refine asD hi hrefl (Region.noSelect_spec hB.1.1) (fun l j hcl hun hj hji w w' ho =>hOb j w w' ho fun hd =>?_) f listed a w hcl (Region.free_spec hi hB.1.2) (by simpa using hB.2) hy hw h
 have:=hd.ready hji hcl hj
 rw [getD_both hun] at this
 cases this
def inN:List Nat→Nat→Bool
 | [],_ =>false
 | x::l,n =>Nat.beq x n || inN l n
end
def aov {T:Nat→Type} (c c':Nat) (xs:List (T c)):Option (List (T c')):=if h:c=c' then some (h▸xs) else none
def aCx {T:Nat→Type} (c c':Nat) (xs:List (List (T c))):Option (List (List (T c'))):=if h:c=c' then some (h▸xs) else none
theorem aCw {T:Nat→Type} {c c':Nat} {xs:List (List (T c))} {ys:List (List (T c'))} (h:aCx c c' xs=some ys):∃ e:c=c',ys=e▸xs:=by
 unfold aCx at h
 split at h
 ·rename_i e; cases h; exact ⟨e,rfl⟩
 ·cases h
theorem ahp {T:Nat→Type} {c c':Nat} {xs:List (T c)} {ys:List (T c')} (h:aov c c' xs=some ys):∃ e:c=c',ys=e▸xs:=by
 unfold aov at h
 split at h
 ·rename_i e; cases h; exact ⟨e,rfl⟩
 ·cases h
def anD {α β:Type} (h:α=β) (xs:List α):List β:=(congrArg List h)▸xs
theorem af0 {α β:Type} (h:α=β) (xs:List α):anD h xs=xs.map (fun x =>h▸x):=by subst h; simp [anD]
def oB:V→Bool
 | .ifc _ _ =>true
 | .ptr _ _ =>true
 | .sl _ =>true
 | .c u =>aei u
 | _ =>false
theorem aLK {ρ:Env} {v:V} (h:oB v=true):aei (aay ρ v)=true:=by
 cases v<;>first | rfl | (cases h; done) | exact h
section
variable (K:KT)
def aLp (own:KT.H K→(c:Nat)→List (Fd K.T K.M)→Option (K.T c×KT.H K)) (H:KT.H K) (e:Fl K.T K.M) (v:V):Option (Fl K.T K.M×KT.H K) :=
 match e with
 | .i k _ =>match amk v with
  | some (k',x,_) =>match awt k' k with
   | true =>some (.i k x,H)
   | false =>none
  | none =>none
 | .b _ =>match av0 v with
  | some x =>some (.b x,H)
  | none =>none
 | .c _ =>none
 | .ro c _ =>match v with
  | .sl id =>match get H id with
   | some (.ro c' xs) =>match aov c' c xs with
    | some ys =>some (.ro c ys,H)
    | none =>none
   | some (.row c' xs) =>match aov c' c xs with
    | some ys =>match K.pl c' && Nat.blt 0 (K.sz c') with
     | true =>some (.ro c ys,(id,.ro c' xs)::del H id)
     | false =>none
    | none =>none
   | _ =>none
  | .c (.slice none 0 0) =>some (.ro c [],H)
  | _ =>none
 | .rr c _ =>match v with
  | .sl id =>match get H id with
   | some (.rr c' xs) =>match aCx c' c xs with
    | some ys =>some (.rr c ys,H)
    | none =>none
   | some (.row c' xs) =>match K.ls c c' with
    | some h =>some (.rr c (anD h.down xs),(id,.rr c (anD h.down xs))::del H id)
    | none =>none
   | _ =>none
  | .c (.slice none 0 0) =>some (.rr c [],H)
  | _ =>none
 | .row c _ =>match v with
  | .sl id =>match get H id with
   | some (.row c' xs) =>match aov c' c xs with
    | some ys =>some (.row c ys,del H id)
    | none =>none
   | some (.hole c' xs i o u) =>match aov c' c xs with
    | some ys =>match (K.vw c (atL (K.df c) ys i))[o]? with
     | some (.own c2 _) =>match u with
      | .ptr id2 p =>match p with
       | 0 =>match get (del H id) id2 with
        | some (.cells fs) =>match own (del (del H id) id2) c2 fs with
         | some (y,H') =>match K.bk c ((K.vw c (atL (K.df c) ys i)).set o (.own c2 y)) with
          | some x' =>some (.row c (ys.set i.toNat x'),H')
          | none =>none
         | none =>none
        | _ =>none
       | _ =>none
      | _ =>none
     | some (.mach _) =>match u with
      | .mc id2 =>match get (del H id) id2 with
       | some (.mach m) =>match K.bk c ((K.vw c (atL (K.df c) ys i)).set o (.mach m)) with
        | some x' =>some (.row c (ys.set i.toNat x'),del (del H id) id2)
        | none =>none
       | _ =>none
      | _ =>none
     | _ =>none
    | none =>none
   | _ =>none
  | .c (.slice none 0 0) =>some (.row c [],H)
  | _ =>none
 | .own c _ =>match v with
  | .ptr id o =>match o with
   | 0 =>match get H id with
    | some (.cells fs) =>match own (del H id) c fs with
     | some (x,H') =>some (.own c x,H')
     | none =>none
    | _ =>none
   | _ =>none
  | _ =>none
 | .o =>match oB v with
  | true =>some (.o,H)
  | false =>none
 | .mach _ =>match v with
  | .mc id =>match get H id with
   | some (.mach m) =>some (.mach m,del H id)
   | _ =>none
  | .c .nilIface =>some (.mach K.nilM,H)
  | .ifc t v =>match v with
   | .ptr id o =>match o with
    | 0 =>match K.kd t with
     | some c =>match get H id with
      | some (.cells fs) =>match own (del H id) c fs with
       | some (x,H') =>match K.mkM c x with
        | some m =>some (.mach m,H')
        | none =>none
       | none =>none
      | _ =>none
     | none =>none
    | _ =>none
   | _ =>none
  | _ =>none
def awf (a:KT.H K→Fl K.T K.M→V→Option (Fl K.T K.M×KT.H K)):KT.H K→List (Fl K.T K.M)→List (Fd K.T K.M)→Option (List (Fl K.T K.M)×KT.H K)
 | H,[],[] =>some ([],H)
 | H,e::es,.f x::fs =>match awf a H es fs with
  | some (l,H') =>some (x::l,H')
  | none =>none
 | H,e::es,.v v::fs =>match a H e v with
  | some (x,H') =>match awf a H' es fs with
   | some (l,H'') =>some (x::l,H'')
   | none =>none
  | none =>none
 | _,_,_ =>none
def aLr:Nat→KT.H K→(c:Nat)→List (Fd K.T K.M)→Option (K.T c×KT.H K)
 | 0,_,_,_ =>none
 | f+1,H,c,fs =>match awf K (aLp K (aLr f)) H (K.vw c (K.df c)) fs with
  | some (l,H') =>match K.bk c l with
   | some x =>some (x,H')
   | none =>none
  | none =>none
def depth:Nat:=9
abbrev asm:KT.H K→Fl K.T K.M→V→Option (Fl K.T K.M×KT.H K):=aLp K (aLr K depth)
end
section
variable {K:KT} {ρ:Env}
theorem amS:∀ {l:List (Fl K.T K.M)} {vs:List Value} {L:List aad} {h:Hp},alI l=true→abW (fsS (pcS K) l vs++L) h→vs=l.map flV∧abW L h
 | [],[],_,_,_,s =>⟨rfl,s⟩
 | f::l,v::vs,L,h,hp,s =>by
  obtain ⟨k1,k2,a,e,hA,hL⟩:=s
  have hd:=Ent.drop h (show abW (pcS K f v::(fsS (pcS K) l vs++L)) h from ⟨k1,k2,a,e,hA,hL⟩)
  rw [aax] at hA
  cases f<;>simp only [alI,Bool.false_eq_true] at hp
  ·obtain ⟨h1,h2⟩:=amS hp hd
   exact ⟨by rw [List.map_cons,← h1]; congr 1,h2⟩
  ·obtain ⟨h1,h2⟩:=amS hp hd
   exact ⟨by rw [List.map_cons,← h1]; congr 1,h2⟩
 | [],_::_,_,_,_,⟨_,_,_,_,hf,_⟩ =>hf.elim
 | _::_,[],_,_,_,⟨_,_,_,_,hf,_⟩ =>hf.elim
theorem ar9 {c:Nat} (hc:K.pl c=true):∀ {xs:List (K.T c)} {vss:List (List Value)} {L:List aad} {h:Hp},abW (abX K (pcS K) c xs vss++L) h→vss=xs.map (afG K c)∧abW L h
 | [],[],_,_,s =>⟨rfl,s⟩
 | x::xs,vs::vss,L,h,s =>by
  have s':abW (fsS (pcS K) (K.vw c x) vs++(abX K (pcS K) c xs vss++L)) h:=by simpa [abX] using s
  obtain ⟨h1,h2⟩:=amS (K.pl_ok c hc x) s'
  obtain ⟨h3,h4⟩:=ar9 hc h2
  exact ⟨by rw [List.map_cons,← h3,h1]; rfl,h4⟩
 | [],_::_,_,_,⟨_,_,_,_,hf,_⟩ =>hf.elim
 | _::_,[],_,_,⟨_,_,_,_,hf,_⟩ =>hf.elim
theorem akk {B:Nat} {w:World} {H:KT.H K} {X:List aad} {id c:Nat} {xs:List (K.T c)} (s:Sat B w (dH K ρ H++X)) (h:get H id=some (.row c xs)∨get H id=some (.ro c xs)):aay ρ (.sl id)=.slice (ρ.s id).a xs.length (ρ.s id).c:=by
 rcases h with h | h
 ·rw [aay,ajv (H:=H) (m:=xs.length) (by unfold aBy; rw [h]) s]
 ·rw [aay,ajv (H:=H) (m:=xs.length) (by unfold aBy; rw [h]) s]
theorem ar0 {B:Nat} {w:World} {c:Nat} {xs:List (K.T c)} {A:Option Addr} {cap:Nat} {L:List aad} (hc:K.pl c=true) (hz:0<K.sz c) (s:Sat B w (rwS K c xs A cap::L)):Sat B w (roS (afG K c) (K.sz c) A cap xs::L):=by
 obtain ⟨h,Hh,k1,k2,a,e,h1,hL⟩:=s
 rw [ac8] at h1
 obtain ⟨vss,q1,q2,a',e',g1,g2⟩:=h1
 have g3:abW (abX K (pcS K) c xs vss++[]) q2:=by simpa using g2
 obtain ⟨rfl,_⟩:=ar9 hc g3
 have s2:Sat B w (ae9 A xs.length cap (K.sz c) (xs.flatMap (afG K c))::L):=by
  refine ⟨h,Hh,k1,k2,a,e,?_,hL⟩
  rw [← List.flatMap_def] at g1
  rw [e']
  obtain ⟨r1,r2,r3,r4⟩:=g1
  refine ⟨r1,r2,r3,r4.imp id ?_⟩
  rintro ⟨b,o,spare,hA,hs,hp⟩
  exact ⟨b,o,spare,hA,hs,fun i v hi =>by unfold ad3; rw [hp i v hi]⟩
 exact aqu hz (fun x =>by unfold afG; rw [List.length_map,K.sz_ok]) rfl B w s2
theorem auS {B:Nat} {w:World} {c c':Nat} {hc:PLift (K.T c'=List (K.T c))} (h:K.ls c c'=some hc):∀ {xs:List (K.T c')} {vss:List (List Value)} {L:List aad},Sat B w (abX K (pcS K) c' xs vss++L) →
  ∃ ps:List (Option Addr×Nat),(vss.flatten.length=xs.length∧∀ (i:Nat) ys,(anD hc.down xs)[i]?=some ys→∃ a,ps[i]?=some a∧vss.flatten[i]?=some (.slice a.1 ys.length a.2)) ∧
   Sat B w (af1 (fun u =>∀ (i:Nat) ys a,(anD hc.down xs)[i]?=some ys→ps[i]?=some a→Sl (afG K c) (K.sz c) u u.heap.size a.1 ys∧ys.length≤a.2)::L)
 | [],[],L,s =>⟨[],⟨rfl,fun i ys hi =>by rw [af0] at hi; cases hi⟩,s.imp fun k hk =>(aq0.trans (Ent.cons (aeF fun _ _ i ys a hi =>by rw [af0] at hi; cases hi) Ent.refl)) k hk⟩
 | x::xs,vs::vss,L,s =>by
  have s':Sat B w (fsS (pcS K) (K.vw c' x) vs++(abX K (pcS K) c' xs vss++L)):=s.imp fun k hk =>by simpa [abX] using hk
  have hro:∃ v A cap,vs=[v]∧v=.slice A (hc.down▸x:List (K.T c)).length cap∧Sat B w (roS (afG K c) (K.sz c) A cap (hc.down▸x)::(abX K (pcS K) c' xs vss++L)):=by
   rcases K.ls_ok _ _ _ h x with hv | ⟨hv,hpl,hsz⟩
   ·rw [hv] at s'
    match vs,s' with
    | [],s' =>obtain ⟨_,_,_,_,_,_,hf,_⟩:=s'; exact hf.elim
    | _::_::_,s' =>obtain ⟨_,_,_,_,_,_,_,_,_,_,_,hf,_⟩:=s'; exact hf.elim
    | [v],s' =>
     obtain ⟨k,Hk,k1,k2,a,e,h1,h2⟩:=(show Sat B w (pcS K (.ro c (hc.down▸x)) v::(abX K (pcS K) c' xs vss++L)) from s')
     rw [aax] at h1
     obtain ⟨A,cap,hv',hro⟩:=h1
     exact ⟨v,A,cap,rfl,hv',k,Hk,k1,k2,a,e,hro,h2⟩
   ·rw [hv] at s'
    match vs,s' with
    | [],s' =>obtain ⟨_,_,_,_,_,_,hf,_⟩:=s'; exact hf.elim
    | _::_::_,s' =>obtain ⟨_,_,_,_,_,_,_,_,_,_,_,hf,_⟩:=s'; exact hf.elim
    | [v],s' =>
     obtain ⟨k,Hk,k1,k2,a,e,h1,h2⟩:=(show Sat B w (pcS K (.row c (hc.down▸x)) v::(abX K (pcS K) c' xs vss++L)) from s')
     rw [aax] at h1
     obtain ⟨A,cap,hv',hro⟩:=h1
     exact ⟨v,A,cap,rfl,hv',ar0 hpl hsz ⟨k,Hk,k1,k2,a,e,hro,h2⟩⟩
  obtain ⟨v,A,cap,rfl,rfl,s0⟩:=hro
  have s1:Sat B w (abX K (pcS K) c' xs vss++(roS (afG K c) (K.sz c) A cap (hc.down▸x)::L)):=s0.imp fun k hk =>abM (List.perm_middle (l₁:=abX K (pcS K) c' xs vss)).symm hk
  obtain ⟨ps,⟨g1,g2⟩,s2⟩:=auS h s1
  refine ⟨(A,cap)::ps,⟨by simp [g1],fun i ys hi =>?_⟩,?_⟩
  ·rw [af0] at hi g2
   cases i with
   | zero =>simp at hi; subst hi; exact ⟨_,rfl,rfl⟩
   | succ i =>exact g2 i ys (by simpa using hi)
  ·refine s2.imp fun k hk =>aaJ (aeF fun u hu i ys a hi ha =>?_) (ayB k hk)
   rw [af0] at hi hu
   cases i with
   | zero =>simp at hi ha; subst hi ha; exact hu.2
   | succ i =>exact hu.1 i ys a (by simpa using hi) (by simpa using ha)
 | [],_::_,_,⟨_,_,_,_,_,_,hf,_⟩ =>hf.elim
 | _::_,[],_,⟨_,_,_,_,_,_,hf,_⟩ =>hf.elim
theorem aJj {B:Nat} {w:World} {c c':Nat} {hc:PLift (K.T c'=List (K.T c))} (h:K.ls c c'=some hc) {xs:List (K.T c')} {A:Option Addr} {cap:Nat} {L:List aad} (s:Sat B w (rwS K c' xs A cap::L)) :
  ∃ ps:List (Option Addr×Nat),Sat B w (af1 (fun u =>((anD hc.down xs).length≤9223372036854775807∧(anD hc.down xs).length≤cap) ∧
   ∀ (i:Nat) ys,(anD hc.down xs)[i]?=some ys→∃ a,ps[i]?=some a∧(Sl (afG K c) (K.sz c) u u.heap.size a.1 ys∧ys.length≤a.2)∧∃ b o,A=some ⟨b,o,none⟩∧b<u.heap.size∧u.cell? ⟨b,o+i,none⟩=some (.slice a.1 ys.length a.2))::L):=by
 obtain ⟨k,Hk,k1,k2,a,e,h1,hL⟩:=s
 rw [ac8] at h1
 obtain ⟨vss,q1,q2,a',e',g1,g2⟩:=h1
 have hs0:abW ((ae9 A xs.length cap (K.sz c') vss.flatten::abX K (pcS K) c' xs vss)++L) k:=aaj.2 ⟨k1,k2,a,e,⟨q1,q2,a',e',g1,g2⟩,hL⟩
 have hs1:abW (abX K (pcS K) c' xs vss++(ae9 A xs.length cap (K.sz c') vss.flatten::L)) k:=abM (List.perm_middle (l₁:=abX K (pcS K) c' xs vss)).symm hs0
 obtain ⟨ps,⟨f1,f2⟩,s2⟩:=auS h ⟨k,Hk,hs1⟩
 have hsz:K.sz c'=1∨xs=[]:=by
  cases xs with
  | nil =>exact .inr rfl
  | cons x xs =>left; rw [← K.sz_ok c' x]; rcases K.ls_ok _ _ _ h x with e | ⟨e,_⟩<;>rw [e]<;>rfl
 have s3:Sat B w (ae9 A xs.length cap (K.sz c') vss.flatten::af1 (fun u =>∀ (i:Nat) ys a,(anD hc.down xs)[i]?=some ys→ps[i]?=some a→Sl (afG K c) (K.sz c) u u.heap.size a.1 ys∧ys.length≤a.2)::L):=s2.imp fun _ =>aqo
 refine ⟨ps,?_⟩
 have hlen:(anD hc.down xs).length=xs.length:=by rw [af0,List.length_map]
 rcases hsz with hsz | rfl
 ·rw [hsz] at s3
  have s4:Sat B w (ae9 A xs.length cap 1 (vss.flatten.flatMap fun v =>[v])::af1 (fun u =>∀ (i:Nat) ys a,(anD hc.down xs)[i]?=some ys→ps[i]?=some a→Sl (afG K c) (K.sz c) u u.heap.size a.1 ys∧ys.length≤a.2)::L):=by
   have:(vss.flatten.flatMap fun v =>[v])=vss.flatten:=by simp
   rw [this]; exact s3
  have s5:=aqu (enc:=fun v:Value =>[v]) Nat.one_pos (fun _ =>rfl) f1 B w s4
  refine s5.imp fun k hk =>aaJ (aeF fun u hu =>?_) (ayB k hk)
  obtain ⟨⟨u1,u2⟩,u3⟩:=hu
  refine ⟨⟨by rw [hlen,← f1]; exact u1.1,by rw [hlen,← f1]; exact u2⟩,fun i ys hi =>?_⟩
  obtain ⟨a,ha,hv⟩:=f2 i ys hi
  have hlt:=(List.getElem?_eq_some_iff.1 hv).1
  obtain ⟨b,o,hA,hb,hc'⟩:=u1.at_ hlt
  refine ⟨a,ha,u3 i ys a hi ha,b,o,hA,hb,?_⟩
  have:=hc' i hlt 0 (.slice a.1 ys.length a.2) (by rw [(List.getElem?_eq_some_iff.1 hv).2]; rfl)
  simpa using this
 ·refine s3.imp fun k hk =>aaJ (aeF fun u hu =>⟨⟨by simp [af0],by simp [af0]⟩,fun i ys hi =>by rw [af0] at hi; cases hi⟩) (Ent.drop k hk)
def aIC (K:KT) (a:KT.H K→Fl K.T K.M→V→Option (Fl K.T K.M×KT.H K)):Prop :=
 ∀ H e v fl H',a H e v=some (fl,H')→∀ ρ X B w,Sat B w (dH K ρ H++X)→Sat B w (pcS K fl (aay ρ v)::(dH K ρ H'++X))
def aIB (K:KT) (own:KT.H K→(c:Nat)→List (Fd K.T K.M)→Option (K.T c×KT.H K)):Prop :=
 ∀ H c fs x H',own H c fs=some (x,H')→∀ ρ X vs B w,Sat B w (fsS (fS K ρ) fs vs++(dH K ρ H++X))→Sat B w (fsS (pcS K) (K.vw c x) vs++(dH K ρ H'++X))
theorem abw {B:Nat} {w:World} {p:aad} {L:List aad} (s:Sat B w L) (h:∀ k,p k):Sat B w (p::L):=s.imp fun k hk =>⟨fun _ _ =>none,k,fun _ _ =>.inl rfl,by funext x y; rfl,h _,hk⟩
theorem abl {B:Nat} {w:World} {A A':aad} {L:List aad} (f:∀ h,A h→A' h) (s:Sat B w (A::L)):Sat B w (A'::L):=s.imp fun _ =>aaJ f
theorem awT {own:KT.H K→(c:Nat)→List (Fd K.T K.M)→Option (K.T c×KT.H K)} (ho:aIB K own) {H H':KT.H K} {id c:Nat} {fs:List (Fd K.T K.M)} {x:K.T c} (hg:get H id=some (.cells fs)) (h:own (del H id) c fs=some (x,H')) {X:List aad} {B:Nat} {w:World} (s:Sat B w (dH K ρ H++X)) :
  Sat B w (obS K c x (ρ.p id)::(dH K ρ H'++X)):=by
 obtain ⟨vs,s2⟩:=ah6 (s.imp (aaV (ρ:=ρ) hg))
 have s3:=ho _ _ _ _ _ h ρ (pts (ρ.p id).1 (ρ.p id).2 vs::X) vs B w (s2.perm (by
  show ((pts (ρ.p id).1 (ρ.p id).2 vs::fsS (fS K ρ) fs vs)++(dH K ρ (del H id)++X)).Perm (fsS (fS K ρ) fs vs++(dH K ρ (del H id)++(pts (ρ.p id).1 (ρ.p id).2 vs::X)))
  rw [← List.append_assoc,← List.append_assoc]
  exact (List.perm_middle (l₁:=fsS (fS K ρ) fs vs++dH K ρ (del H id))).symm))
 have s4:Sat B w ((pts (ρ.p id).1 (ρ.p id).2 vs::fsS (pcS K) (K.vw c x) vs)++(dH K ρ H'++X)):=s3.perm (by
  rw [← List.append_assoc,List.cons_append,← List.append_assoc]
  exact List.perm_middle)
 refine s4.imp fun k hk =>?_
 obtain ⟨k1,k2,a,e,g1,g2⟩:=aaj.1 hk
 exact ⟨k1,k2,a,e,aiv.2 ⟨vs,g1⟩,g2⟩
theorem aCK {own:KT.H K→(c:Nat)→List (Fd K.T K.M)→Option (K.T c×KT.H K)} (ho:aIB K own):aIC K (aLp K own):=by
 intro H e v fl H' h ρ X B w s
 unfold aLp at h
 split at h
 ·split at h
  ·rename_i hi
   split at h
   ·rename_i hk
    cases h
    obtain rfl:=ak5 hk
    exact abw s fun k =>aax.2 (show aay ρ v=_ from alg hi)
   ·cases h
  ·cases h
 ·split at h
  ·rename_i hb; cases h; exact abw s fun k =>aax.2 (show aay ρ v=_ from anF hb)
  ·cases h
 ·cases h
 ·rename_i c xs0
  split at h
  ·rename_i id
   split at h
   ·rename_i c' xs hg
    split at h
    ·rename_i ys hy
     cases h
     obtain ⟨rfl,rfl⟩:=ahp hy
     have hv:=akk s (.inr hg)
     obtain ⟨h0,H0,t0⟩:=s
     have key:Sat B w (roS (afG K c') (K.sz c') (ρ.s id).a (ρ.s id).c ys::(dH K ρ H++X)):=by
      have:∀ k,abW (dH K ρ H++X) k→abW (roS (afG K c') (K.sz c') (ρ.s id).a (ρ.s id).c ys::(dH K ρ H++X)) k:=by
       intro k hk
       obtain ⟨j1,j2,a1,e1,⟨_,m2⟩,mL⟩:=aaV (ρ:=ρ) hg k hk
       obtain ⟨p,hp,hΦ⟩:=m2
       refine ⟨p,k,fun b o =>?_,?_,⟨p,fun b o x hx =>⟨(hp b o x hx).1,hx⟩,hΦ⟩,hk⟩
       ·cases hpb:p b o with
        | none =>exact .inl rfl
        | some x =>
         obtain ⟨⟨v,rfl⟩,h2⟩:=hp b o x hpb
         exact .inr (.inr ⟨v,rfl,by rw [e1]; unfold ad3; rw [h2]⟩)
       ·funext b o
        unfold ad3
        cases hpb:p b o with
        | none =>rfl
        | some x =>
         obtain ⟨⟨v,rfl⟩,h2⟩:=hp b o x hpb
         rw [e1]; unfold ad3; rw [h2]
      exact ⟨h0,H0,this _ t0⟩
     exact abl (fun k hk =>aax.2 (show pcW K (obS K) (rwS K) (.ro c' ys) (aay ρ (.sl id)) k from ⟨_,_,hv,hk⟩)) key
    ·cases h
   ·rename_i c' xs hg
    split at h
    ·rename_i ys hy
     split at h
     ·rename_i hpl
      cases h
      obtain ⟨rfl,rfl⟩:=ahp hy
      have hv:=akk s (.inl hg)
      obtain ⟨hh,Hh,k1,k2,a,e,⟨h1,h2⟩,hL⟩:=s.imp (aaV (ρ:=ρ) hg)
      simp only [Bool.and_eq_true] at hpl
      have s2:Sat B w (rwS K c' ys (ρ.s id).a (ρ.s id).c::(dH K ρ (del H id)++X)):=⟨hh,Hh,k1,k2,a,e,h2,hL⟩
      refine ((ar0 hpl.1 (Nat.le_of_ble_eq_true hpl.2) s2).imp ax3).imp fun k hk =>?_
      exact aaJ (fun k hk =>aax.2 (show pcW K (obS K) (rwS K) (.ro c' ys) (aay ρ (.sl id)) k from ⟨_,_,hv,hk⟩)) (abp (fun k hk =>aaJ (fun k hk =>⟨h1,hk⟩) hk) hk)
     ·cases h
    ·cases h
   ·cases h
  ·cases h
   exact s.imp fun k hk =>by
    have:=aFw (enc:=afG K c) (sz:=K.sz c) (A:=none) (c:=0) k hk
    exact aaJ (fun k hk =>aax.2 (show pcW K (obS K) (rwS K) (.ro c []) (.slice none 0 0) k from ⟨none,0,rfl,hk⟩)) this
  ·cases h
 ·rename_i c xs0
  split at h
  ·rename_i id
   split at h
   ·rename_i c' xs hg
    split at h
    ·rename_i ys hy
     cases h
     obtain ⟨rfl,rfl⟩:=aCw hy
     have hv:aay ρ (.sl id)=.slice (ρ.s id).a ys.length (ρ.s id).c:=by
      rw [aay,ajv (H:=H) (m:=ys.length) (by unfold aBy; rw [hg]) s]
     obtain ⟨h0,H0,t0⟩:=s
     refine ⟨h0,H0,?_⟩
     obtain ⟨j1,j2,a1,e1,⟨m1,ps,m2⟩,mL⟩:=aaV (ρ:=ρ) hg h0 t0
     obtain ⟨p,hp,hΦ⟩:=m2
     have hpp:∀ b o x,p b o=some x→(∃ v,x=.look v)∧h0 b o=some x:=fun b o x hx =>⟨(hp b o x hx).1,by rw [e1]; unfold ad3; rw [(hp b o x hx).2]⟩
     refine ⟨p,h0,fun b o =>?_,?_,aax.2 (show pcW K (obS K) (rwS K) (.rr c' ys) (aay ρ (.sl id)) p from ⟨_,_,hv,ps,p,fun b o x hx =>⟨(hpp b o x hx).1,hx⟩,hΦ⟩),t0⟩
     ·cases hpb:p b o with
      | none =>exact .inl rfl
      | some x =>
       obtain ⟨⟨v,rfl⟩,h2⟩:=hpp b o x hpb
       exact .inr (.inr ⟨v,rfl,h2⟩)
     ·funext b o
      unfold ad3
      cases hpb:p b o with
      | none =>rfl
      | some x =>exact (hpp b o x hpb).2
    ·cases h
   ·rename_i c' xs hg
    split at h
    ·rename_i hc hls
     cases h
     have hv:=akk s (.inl hg)
     obtain ⟨hh,Hh,k1,k2,a,e,⟨h1,h2⟩,hL⟩:=s.imp (aaV (ρ:=ρ) hg)
     have s2:Sat B w (rwS K c' xs (ρ.s id).a (ρ.s id).c::(dH K ρ (del H id)++X)):=⟨hh,Hh,k1,k2,a,e,h2,hL⟩
     obtain ⟨ps,s3⟩:=aJj hls s2
     have hlen:(anD hc.down xs).length=xs.length:=by rw [af0,List.length_map]
     refine (s3.imp am8).imp fun k hk =>?_
     exact aaJ (fun k hk =>aax.2 (show pcW K (obS K) (rwS K) (.rr c (anD hc.down xs)) (aay ρ (.sl id)) k from ⟨_,_,by rw [hv,hlen],ps,hk⟩)) (abp (fun k hk =>aaJ (fun k hk =>⟨by rw [h1,hlen],ps,hk⟩) hk) hk)
    ·cases h
   ·cases h
  ·cases h
   exact s.imp fun k hk =>by
    refine aaJ (fun k hk =>aax.2 (show pcW K (obS K) (rwS K) (.rr c []) (.slice none 0 0) k from ⟨none,0,rfl,[],?_⟩)) (aq0 k hk)
    exact aeF (fun u _ =>⟨⟨by simp,by simp⟩,fun i ys hi =>by cases hi⟩) k hk
  ·cases h
 ·rename_i c xs0
  split at h
  ·rename_i id
   split at h
   ·rename_i c' xs hg
    split at h
    ·rename_i ys hy
     cases h
     obtain ⟨rfl,rfl⟩:=ahp hy
     have hv:=akk s (.inl hg)
     obtain ⟨hh,Hh,k1,k2,a,e,⟨h1,h2⟩,hL⟩:=s.imp (aaV (ρ:=ρ) hg)
     exact ⟨hh,Hh,k1,k2,a,e,aax.2 (show pcW K (obS K) (rwS K) (.row c' ys) (aay ρ (.sl id)) k1 from ⟨_,_,hv,h2⟩),hL⟩
    ·cases h
   ·rename_i c' xs i o u hg
    split at h
    ·rename_i ys hy
     obtain ⟨rfl,rfl⟩:=ahp hy
     have fin:∀ {f':Fl K.T K.M} {x':K.T c'} {L:List aad},K.bk c' ((K.vw c' (atL (K.df c') ys i)).set o f')=some x'→Sat B w (ac6 K ρ id (.hole c' ys i o u)::pcS K f' (aay ρ u)::L)→Sat B w (pcS K (.row c' (ys.set i.toNat x')) (aay ρ (.sl id))::L):=by
      intro f' x' L hb s'
      refine abl (fun k hk =>?_) (azD (K.bk_ok _ _ _ hb) s')
      exact aax.2 (show pcW K (obS K) (rwS K) (.row c' (ys.set i.toNat x')) (aay ρ (.sl id)) k from ⟨(ρ.s id).a,(ρ.s id).c,by rw [aay,hk.1],hk.2⟩)
     have s1:Sat B w (dH K ρ (del H id)++(ac6 K ρ id (.hole c' ys i o u)::X)):=(s.imp (aaV (ρ:=ρ) hg)).perm (List.perm_middle (l₁:=dH K ρ (del H id))).symm
     split at h
     ·rename_i c2 y0 _
      split at h
      ·rename_i id2 p
       split at h
       ·split at h
        ·rename_i fs hg2
         split at h
         ·rename_i y H2 hown
          split at h
          ·rename_i x' hb
           cases h
           have s2:=awT ho hg2 hown s1
           have s3:Sat B w (pcS K (.own c2 y) (aay ρ (.ptr id2 0))::(dH K ρ H'++(ac6 K ρ id (.hole c' ys i o (.ptr id2 0))::X))):=abl (fun k hk =>aax.2 (show pcW K (obS K) (rwS K) (.own c2 y) (aay ρ (.ptr id2 0)) k from ⟨ρ.p id2,rfl,hk⟩)) s2
           refine fin hb (s3.perm ?_)
           exact (List.Perm.cons _ (List.perm_middle (l₁:=dH K ρ H'))).trans (List.Perm.swap ..)
          ·cases h
         ·cases h
        ·cases h
       ·cases h
      ·cases h
     ·split at h
      ·rename_i id2
       split at h
       ·rename_i m hg2
        split at h
        ·rename_i x' hb
         cases h
         have s2:=s1.imp (aaV (ρ:=ρ) hg2)
         refine fin (f':=.mach m) hb (s2.perm ?_)
         exact (List.Perm.cons _ (List.perm_middle (l₁:=dH K ρ (del (del H id) id2)))).trans (List.Perm.swap ..)
        ·cases h
       ·cases h
      ·cases h
     ·cases h
    ·cases h
   ·cases h
  ·cases h
   have hr:∀ k,rwS K c [] none 0 k:=fun k =>ac8.2 ⟨[],fun _ _ =>none,k,fun _ _ =>.inl rfl,by funext x y; rfl,ax2 _ _,trivial⟩
   exact abw s fun k =>aax.2 (show pcW K (obS K) (rwS K) (.row c []) (.slice none 0 0) k from ⟨none,0,rfl,hr k⟩)
  ·cases h
 ·rename_i c x0
  split at h
  ·rename_i id o
   split at h
   ·split at h
    ·rename_i fs hg
     split at h
     ·rename_i x H2 hx
      cases h
      have s2:=awT ho hg hx s
      exact abl (fun k hk =>aax.2 (show pcW K (obS K) (rwS K) (.own c x) (aay ρ (.ptr id 0)) k from ⟨ρ.p id,rfl,hk⟩)) s2
     ·cases h
    ·cases h
   ·cases h
  ·cases h
 ·split at h
  ·rename_i hb; cases h; exact abw s fun _ =>aax.2 (show pcW K (obS K) (rwS K) .o (aay ρ v) _ from aLK hb)
  ·cases h
 ·split at h
  ·rename_i id
   split at h
   ·rename_i m hg
    cases h
    exact s.imp (aaV (ρ:=ρ) hg)
   ·cases h
  ·cases h
   exact abw s fun k =>aax.2 (by simp only [pcW,K.nilM_ok]; rfl)
  ·rename_i t v
   split at h
   ·rename_i id o
    split at h
    ·split at h
     ·rename_i c hkd
      split at h
      ·rename_i fs hg
       split at h
       ·rename_i x H2 hx
        split at h
        ·rename_i m hm
         cases h
         have s2:=awT ho hg hx s
         refine abl (fun k hk =>aax.2 ?_) s2
         simp only [pcW,K.mkM_ok _ _ _ hm]
         exact ⟨ρ.p id,by rw [K.kd_ok _ _ hkd]; rfl,hk⟩
        ·cases h
       ·cases h
      ·cases h
     ·cases h
    ·cases h
   ·cases h
  ·cases h
theorem ahF {A:List aad}:∀ {L:List aad} {h:Hp},abW (L++A) h→abW A h
 | [],_,s =>s
 | _::_,h,s =>ahF (Ent.drop h s)
theorem aj2 {α:Type _} (A B X:List α) (p:α):(A++(B++(p::X))).Perm (p::(A++(B++X))):=by
 rw [← List.append_assoc,← List.append_assoc]; exact List.perm_middle
theorem adK {α:Type _} (A B X:List α):(A++(B++X)).Perm (B++(A++X)):=by
 rw [← List.append_assoc,← List.append_assoc]; exact List.perm_append_comm.append_right _
theorem aaA {B:Nat} {w:World} {L:List aad} {p:Prop} (s:Sat B w ((fun _ =>False)::L)):p:=by
 obtain ⟨_,_,_,_,_,_,hf,_⟩:=s; exact hf.elim
theorem ajN {a:KT.H K→Fl K.T K.M→V→Option (Fl K.T K.M×KT.H K)} (ha:aIC K a):∀ {H:KT.H K} {es:List (Fl K.T K.M)} {fs:List (Fd K.T K.M)} {l:List (Fl K.T K.M)} {H':KT.H K},awf K a H es fs=some (l,H') →
  ∀ {ρ:Env} {X:List aad} {vs:List Value} {B:Nat} {w:World},Sat B w (fsS (fS K ρ) fs vs++(dH K ρ H++X))→Sat B w (fsS (pcS K) l vs++(dH K ρ H'++X))
 | H,[],[],l,H',h,ρ,X,vs,B,w,s =>by
  cases h
  cases vs with
  | nil =>exact s
  | cons v vs =>exact aaA s
 | H,e::es,.f x::fs,l,H',h,ρ,X,vs,B,w,s =>by
  unfold awf at h
  split at h
  ·rename_i l' H2 h2
   cases h
   cases vs with
   | nil =>exact aaA s
   | cons v vs =>
    have s1:Sat B w (fsS (fS K ρ) fs vs++(dH K ρ H++(pcS K x v::X))):=s.perm (aj2 (fsS (fS K ρ) fs vs) (dH K ρ H) X (pcS K x v)).symm
    have s2:=ajN ha h2 s1
    exact s2.perm (aj2 (fsS (pcS K) l' vs) (dH K ρ H') X (pcS K x v))
  ·cases h
 | H,e::es,.v u::fs,l,H',h,ρ,X,vs,B,w,s =>by
  unfold awf at h
  split at h
  ·rename_i x H1 h1
   split at h
   ·rename_i l' H2 h2
    cases h
    cases vs with
    | nil =>exact aaA s
    | cons v vs =>
     have hv:v=aay ρ u:=Sat.pure (show Sat B w (apr (v=aay ρ u)::(fsS (fS K ρ) fs vs++(dH K ρ H++X))) from s)
     have s0:Sat B w (fsS (fS K ρ) fs vs++(dH K ρ H++X)):=s.imp Ent.drop
     have s1:=ha _ _ _ _ _ h1 ρ (fsS (fS K ρ) fs vs++X) B w (s0.perm (adK (fsS (fS K ρ) fs vs) (dH K ρ H) X))
     have s2:Sat B w (fsS (fS K ρ) fs vs++(dH K ρ H1++(pcS K x v::X))):=s1.perm (by
      rw [← hv]
      exact (List.Perm.cons _ (adK (dH K ρ H1) (fsS (fS K ρ) fs vs) X)).trans (aj2 (fsS (fS K ρ) fs vs) (dH K ρ H1) X (pcS K x v)).symm)
     have s3:=ajN ha h2 s2
     exact s3.perm (aj2 (fsS (pcS K) l' vs) (dH K ρ H') X (pcS K x v))
   ·cases h
  ·cases h
 | _,[],_::_,_,_,h,_,_,_,_,_,_ =>by cases h
 | _,_::_,[],_,_,h,_,_,_,_,_,_ =>by cases h
theorem aCM:∀ f,aIB K (aLr K f)
 | 0 =>fun _ _ _ _ _ h =>by cases h
 | f+1 =>fun H c fs x H' h ρ X vs B w s =>by
  unfold aLr at h
  split at h
  ·rename_i l H2 hl
   split at h
   ·rename_i y hy
    cases h
    have:=ajN (aCK (aCM f)) hl s
    rw [K.bk_ok _ _ _ hy]
    exact this
   ·cases h
  ·cases h
theorem arF:aIC K (asm K):=aCK (aCM _)
end
theorem aeG {sz:Nat}:∀ {vss:List (List Value)},(∀ vs∈vss,vs.length=sz)→vss.flatten.length=vss.length*sz
 | [],_ =>by simp
 | vs::vss,h =>by
  rw [List.flatten_cons,List.length_append,aeG (fun v hv =>h v (List.mem_cons_of_mem _ hv)),h vs (List.mem_cons_self ..),List.length_cons,Nat.add_mul]; omega
theorem ajB {sz:Nat}:∀ {vss:List (List Value)} {i o:Nat} {vs us:List Value},(∀ vs∈vss,vs.length=sz)→vss[i]?=some vs→o+us.length≤sz →
  (vss.set i (vs.take o++us++vs.drop (o+us.length))).flatten=vss.flatten.take (i*sz+o)++us++vss.flatten.drop (i*sz+o+us.length)
 | [],i,o,vs,us,_,h,_ =>by cases h
 | ws::vss,0,o,vs,us,hl,h,ho =>by
  simp at h; subst h
  have h0:=hl ws (List.mem_cons_self ..)
  simp only [List.set_cons_zero,List.flatten_cons,Nat.zero_mul,Nat.zero_add]
  rw [List.take_append_of_le_length (by omega),List.drop_append_of_le_length (by omega)]
  simp only [List.append_assoc]
 | ws::vss,i+1,o,vs,us,hl,h,ho =>by
  have h0:=hl ws (List.mem_cons_self ..)
  have ih:=ajB (vss:=vss) (i:=i) (o:=o) (vs:=vs) (us:=us) (fun v hv =>hl v (List.mem_cons_of_mem _ hv)) (by simpa using h) ho
  simp only [List.set_cons_succ,List.flatten_cons]
  rw [ih,show (i+1)*sz+o=ws.length+(i*sz+o) by rw [h0,Nat.add_mul]; omega]
  rw [List.take_length_add_append,Nat.add_assoc ws.length,List.drop_length_add_append]
  simp only [List.append_assoc]
theorem ajz {F:Type} {pc:F→Value→aad}:∀ {a b:List F} {x y:List Value},a.length=x.length→fsS pc (a++b) (x++y)=fsS pc a x++fsS pc b y
 | [],_,[],_,_ =>rfl
 | f::a,b,v::x,y,h =>by simp only [List.cons_append,fsS,ajz (a:=a) (x:=x) (by simpa using h)]
 | [],_,_::_,_,h =>by cases h
 | _::_,_,[],_,h =>by cases h
section
variable {P:Program} {B:Nat} {W:World}
theorem aAK {T:TypeId} {v:Value} {b o m c sz i k:Nat} {vs us:List Value} {w:World} {L:List aad} (s:Sat B w (ae9 (some ⟨b,o,none⟩) m c sz vs::L)) (hb:Below B W w) (hl:B≤w.heap.size) (hT:P.cellsOf T=k) (hk:us.length=k) (hk0:0<k) (hv:v.cells.toList=us) (ha:us.all aei=true) (hi:i+k≤vs.length) :
  ∃ w',(storeVar T ⟨b,o+i,none⟩ v).run P w=.ok () w'∧Cls B W (ae9 (some ⟨b,o,none⟩) m c sz (vs.take i++us++vs.drop (i+k))::L) w':=by
 obtain ⟨h,Hh,k1,k2,ap,e,⟨h1,h2,h3,h4⟩,hM⟩:=s
 rcases h4 with ⟨h4,_⟩ | ⟨b',o',spare,hA,hsp,hp⟩
 ·cases h4
 ·cases hA
  have s':Sat B w (pts b o (vs++spare)::L):=⟨h,Hh,k1,k2,ap,e,hp,hM⟩
  obtain ⟨w',hr,c1,c2,c3⟩:=aoR (P:=P) (T:=T) (v:=v) (W:=W) (o':=o+i) (i:=i) (k:=k) (us:=us) s' hb hl rfl hT hk hk0 hv ha (by rw [List.length_append]; omega)
  refine ⟨w',hr,c1,c2,c3.imp fun h =>aaJ fun h hq =>?_⟩
  have e1:List.take i (vs++spare)++us++List.drop (i+k) (vs++spare)=(vs.take i++us++vs.drop (i+k))++spare:=by
   rw [List.take_append_of_le_length (by omega),List.drop_append_of_le_length (by omega)]
   simp only [List.append_assoc]
  rw [e1] at hq
  refine ⟨?_,h2,h3,.inr ⟨b,o,spare,rfl,hsp,hq⟩⟩
  rw [← h1]; simp only [List.length_append,List.length_take,List.length_drop]; omega
end
section
variable (K:KT)
def aH7 (P:Program) (H:KT.H K) (T:TypeId) (x u:V):Option (KT.H K) :=
 match x with
 | .ptr id o =>match get H id with
  | some (.elt j i sz) =>match get H j with
   | some (.row c xs) =>match Nat.beq sz (K.sz c) && Nat.beq (P.cellsOf T) (aaG u).length && Nat.blt 0 (aaG u).length && Nat.ble (o+(aaG u).length) sz && (aaG u).all (scV (del H j)) with
    | true =>match awf K (asm K) (del H j) (((K.vw c (atL (K.df c) xs i)).drop o).take (aaG u).length) ((aaG u).map .v) with
     | some (l,H1) =>match K.bk c ((K.vw c (atL (K.df c) xs i)).take o++l++(K.vw c (atL (K.df c) xs i)).drop (o+(aaG u).length)) with
      | some x' =>some ((j,.row c (xs.set i.toNat x'))::H1)
      | none =>none
     | none =>none
    | false =>none
   | _ =>none
  | _ =>none
 | _ =>none
end
section
variable {K:KT} {P:Program} {nt n B:Nat} {W:World} {R:aa6} {Z H:KT.H K} {nx:Nat→KT.H K→V→Prop}
theorem ap8 {a:KT.H K→Fl K.T K.M→V→Option (Fl K.T K.M×KT.H K)}:∀ {H:KT.H K} {es:List (Fl K.T K.M)} {fs:List (Fd K.T K.M)} {l:List (Fl K.T K.M)} {H':KT.H K},awf K a H es fs=some (l,H')→l.length=fs.length∧es.length=fs.length
 | H,[],[],l,H',h =>by cases h; exact ⟨rfl,rfl⟩
 | H,e::es,.f x::fs,l,H',h =>by
  unfold awf at h
  split at h
  ·rename_i h2; cases h; have:=ap8 h2; simp [this]
  ·cases h
 | H,e::es,.v u::fs,l,H',h =>by
  unfold awf at h
  split at h
  ·split at h
   ·rename_i h2; cases h; have:=ap8 h2; simp [this]
   ·cases h
  ·cases h
 | _,[],_::_,_,_,h =>by cases h
 | _,_::_,[],_,_,h =>by cases h
theorem awl {o:Oper} {T:TypeId} {x y:Operand} {u v:V} {H':KT.H K} (ho:o.op=.store T x y) (hx:evO R x=some u) (hy:evO R y=some v) (h:aH7 K P H T u v=some H') (hn:nx n H' (.c undef)):afz K P nt B W o R n Z H nx:=fun F ρ a w s =>by
 obtain ⟨d,op,ty,ps,af,g⟩:=o
 simp only at ho
 subst ho
 have ex:=(aaO (ρ:=ρ) hx).eval s.regs
 have ey:=(aaO (ρ:=ρ) hy).eval s.regs
 unfold aH7 at h
 split at h
 ·rename_i id o'
  split at h
  ·rename_i j i sz hel
   split at h
   ·rename_i c xs hg
    split at h
    ·rename_i hB
     split at h
     ·rename_i l H1 hl
      split at h
      ·rename_i x' hbk
       cases h
       simp only [Bool.and_eq_true] at hB
       obtain ⟨⟨⟨⟨b0,b1⟩,b2⟩,b3⟩,b4⟩:=hB
       obtain rfl:=Nat.eq_of_beq_eq_true b0
       have b1':=Nat.eq_of_beq_eq_true b1
       have b2':0<(aaG v).length:=Nat.le_of_ble_eq_true b2
       have b3':=Nat.le_of_ble_eq_true b3
       obtain ⟨hi,b,o2,hA,hp⟩:=avK s.sat hel
       obtain ⟨hlen,vss,h2,h3,s2⟩:=alG s.sat hg
       rw [hlen] at hi
       have hxi:=adL (d:=K.df c) hi
       have hlt:i.toNat<vss.length:=by omega
       have hvs:vss[i.toNat]?=some vss[i.toNat]:=List.getElem?_eq_getElem hlt
       have hvl:=h3 _ (List.getElem_mem hlt)
       rw [hA] at s2
       -- what is stored
       have s3:Sat B w (dH K ρ (del H j)++(ae9 (some ⟨b,o2,none⟩) xs.length (ρ.s j).c (K.sz c) vss.flatten::(abX K (pcS K) c xs vss++tl K Z F ρ))):=s2.perm (by
        refine List.Perm.symm ?_
        refine (List.perm_middle (l₁:=dH K ρ (del H j))).trans (List.Perm.cons _ ?_)
        exact adK _ _ _)
       obtain ⟨hcl,hsc⟩:=anC b4 s3
       have hvlen:(aah ρ (aaG v)).length=(aaG v).length:=by rw [aaS]; simp
       have s4:=ajN arF hl (ρ:=ρ) (X:=ae9 (some ⟨b,o2,none⟩) xs.length (ρ.s j).c (K.sz c) vss.flatten::(abX K (pcS K) c xs vss++tl K Z F ρ)) (vs:=aah ρ (aaG v)) (s3.imp fun k hk =>ajy hk)
       have s5:Sat B w (ae9 (some ⟨b,o2,none⟩) xs.length (ρ.s j).c (K.sz c) vss.flatten::(fsS (pcS K) l (aah ρ (aaG v))++(dH K ρ H1++(abX K (pcS K) c xs vss++tl K Z F ρ)))):=s4.perm (aj2 _ _ _ _)
       obtain ⟨w',hr,c1,c2,c3⟩:=aAK (P:=P) (T:=T) (v:=aay ρ v) (W:=W) (i:=i.toNat*K.sz c+o') (k:=(aaG v).length) (us:=aah ρ (aaG v)) s5 s.below s.lo b1' hvlen b2' hcl hsc (by
        rw [aeG h3]
        have:(i.toNat+1)*K.sz c≤vss.length*K.sz c:=Nat.mul_le_mul_right _ hlt
        rw [Nat.add_mul] at this
        omega)
       have:(execOp a.eval ⟨d,.store T x y,ty,ps,af,g⟩).run P w=.ok .skip w':=by
        simp only [execOp,ex,ey,aay,Instr.storeAt,Instr.sureAddr,hp]
        rw [aaa (a:=()) (w':=w') (by
         rw [aaa (a:=(⟨b,o2+i.toNat*K.sz c+o',none⟩:Addr)) (w':=w) rfl]
         rw [Nat.add_assoc]; exact hr)]
        rfl
       rw [this]
       refine ⟨⟨ρ,n,_,.c undef⟩,rfl,⟨aaB.refl _ _,Nat.le_refl _,rfl,hn⟩,c1,c2,?_⟩
       rw [← hvlen] at c3
       rw [← ajB h3 hvs (by omega)] at c3
       -- put together again
       obtain ⟨M,p1,p2⟩:=aiJ (pc:=pcS K) hxi hvs
       refine c3.imp fun k hk =>?_
       obtain ⟨k1,k2,a',e',g1,g2⟩:=hk
       have g3:abW ((fsS (pcS K) l (aah ρ (aaG v))++(fsS (pcS K) (K.vw c (atL (K.df c) xs i)) vss[i.toNat]++M))++(dH K ρ H1++tl K Z F ρ)) k2:=by
        refine abM ?_ g2
        rw [List.append_assoc]
        refine List.Perm.append_left _ ?_
        refine (adK _ _ _).trans ?_
        exact p1.append_right _
       have hes:(K.vw c (atL (K.df c) xs i)).length=(vss[i.toNat]).length:=by rw [K.sz_ok,hvl]
       have hol:o'+(aaG v).length≤(K.vw c (atL (K.df c) xs i)).length:=by rw [K.sz_ok]; exact b3'
       have hll:=(ap8 hl).1
       rw [List.length_map] at hll
       -- the old cells' places in three
       have e1:fsS (pcS K) (K.vw c (atL (K.df c) xs i)) vss[i.toNat]=fsS (pcS K) ((K.vw c (atL (K.df c) xs i)).take o') ((vss[i.toNat]).take o')++(fsS (pcS K) (((K.vw c (atL (K.df c) xs i)).drop o').take (aaG v).length) (((vss[i.toNat]).drop o').take (aaG v).length)++fsS (pcS K) ((K.vw c (atL (K.df c) xs i)).drop (o'+(aaG v).length)) ((vss[i.toNat]).drop (o'+(aaG v).length))):=by
        conv =>lhs; rw [← List.take_append_drop o' (K.vw c (atL (K.df c) xs i)),← List.take_append_drop o' (vss[i.toNat]),ajz (by simp [hes])]
        conv =>lhs; arg 2; rw [← List.take_append_drop (aaG v).length ((K.vw c (atL (K.df c) xs i)).drop o'),← List.take_append_drop (aaG v).length ((vss[i.toNat]).drop o'),ajz (by simp [hes]),List.drop_drop,List.drop_drop]
       rw [e1] at g3
       have g4:abW ((fsS (pcS K) ((K.vw c (atL (K.df c) xs i)).take o') ((vss[i.toNat]).take o')++(fsS (pcS K) l (aah ρ (aaG v))++(fsS (pcS K) ((K.vw c (atL (K.df c) xs i)).drop (o'+(aaG v).length)) ((vss[i.toNat]).drop (o'+(aaG v).length))++M)))++(dH K ρ H1++tl K Z F ρ)) k2:=by
        have g5:abW (fsS (pcS K) (((K.vw c (atL (K.df c) xs i)).drop o').take (aaG v).length) (((vss[i.toNat]).drop o').take (aaG v).length)++((fsS (pcS K) ((K.vw c (atL (K.df c) xs i)).take o') ((vss[i.toNat]).take o')++(fsS (pcS K) l (aah ρ (aaG v))++(fsS (pcS K) ((K.vw c (atL (K.df c) xs i)).drop (o'+(aaG v).length)) ((vss[i.toNat]).drop (o'+(aaG v).length))++M)))++(dH K ρ H1++tl K Z F ρ))) k2:=by
         refine abM ?_ g3
         simp only [List.append_assoc]
         refine (adK _ _ _).trans ?_
         refine (List.Perm.append_left _ (adK _ _ _)).trans ?_
         exact adK _ _ _
        exact ahF g5
       have e2:fsS (pcS K) (K.vw c x') ((vss[i.toNat]).take o'++aah ρ (aaG v)++(vss[i.toNat]).drop (o'+(aah ρ (aaG v)).length))=fsS (pcS K) ((K.vw c (atL (K.df c) xs i)).take o') ((vss[i.toNat]).take o')++(fsS (pcS K) l (aah ρ (aaG v))++fsS (pcS K) ((K.vw c (atL (K.df c) xs i)).drop (o'+(aaG v).length)) ((vss[i.toNat]).drop (o'+(aaG v).length))):=by
        rw [K.bk_ok _ _ _ hbk,List.append_assoc,List.append_assoc,ajz (by simp [hes]),ajz (by rw [hvlen,hll]),hvlen]
       have g6:abW (abX K (pcS K) c (xs.set i.toNat x') (vss.set i.toNat ((vss[i.toNat]).take o'++aah ρ (aaG v)++(vss[i.toNat]).drop (o'+(aah ρ (aaG v)).length)))++(dH K ρ H1++tl K Z F ρ)) k2:=by
        refine abM (((p2 x' _).append_right _).symm) ?_
        rw [e2]
        simpa only [List.append_assoc] using g4
       have g7:abW ((ae9 (some ⟨b,o2,none⟩) (xs.set i.toNat x').length (ρ.s j).c (K.sz c) (vss.set i.toNat ((vss[i.toNat]).take o'++aah ρ (aaG v)++(vss[i.toNat]).drop (o'+(aah ρ (aaG v)).length))).flatten::abX K (pcS K) c (xs.set i.toNat x') (vss.set i.toNat ((vss[i.toNat]).take o'++aah ρ (aaG v)++(vss[i.toNat]).drop (o'+(aah ρ (aaG v)).length))))++(dH K ρ H1++tl K Z F ρ)) k:=⟨k1,k2,a',e',by rw [List.length_set]; exact g1,g6⟩
       obtain ⟨j1,j2,a'',e'',q1,q2⟩:=aaj.1 g7
       exact ⟨j1,j2,a'',e'',⟨by rw [List.length_set]; exact hlen,ac8.2 ⟨_,by rw [hA]; exact q1⟩⟩,q2⟩
      ·cases h
     ·cases h
    ·cases h
   ·cases h
  ·cases h
 ·cases h
end
theorem amB:∀ (us:List Value) (j off:Nat) (cs:Array Value),off+j+us.length≤cs.size →
  ((us.zipIdx j).foldl (fun cs (p:Value×Nat) =>cs.setIfInBounds (off+p.2) p.1) cs).toList=cs.toList.take (off+j)++us++cs.toList.drop (off+j+us.length)
 | [],j,off,cs,_ =>by simp
 | u::us,j,off,cs,h =>by
  simp only [List.length_cons] at h
  simp only [List.zipIdx_cons,List.foldl_cons,List.length_cons]
  rw [amB us (j+1) off _ (by simp; omega)]
  simp only [Array.toList_setIfInBounds]
  have hl:off+j<cs.toList.length:=by simpa using (by omega:off+j<cs.size)
  rw [show off+(j+1)=(off+j)+1 by omega]
  have e1:(cs.toList.set (off+j) u).take (off+j+1)=cs.toList.take (off+j)++[u]:=by
   rw [List.take_succ_eq_append_getElem (by simpa using hl),List.take_set_of_le (Nat.le_refl _)]
   simp
  have e2:(cs.toList.set (off+j) u).drop (off+j+1+us.length)=cs.toList.drop (off+j+(us.length+1)):=by
   rw [List.drop_set_of_lt (by omega)]; congr 1; omega
  rw [e1,e2]; simp
def azF {K:KT} (H:KT.H K) (pl:Nat→Option (Nat×Nat)) (cells:List V):List (Nat×V)→Option (List V)
 | [] =>some cells
 | (i,v)::rest =>match pl i with
  | some (off,size) =>match Nat.beq (aaG v).length size && Nat.ble (off+size) cells.length && (aaG v).all (scV H) with
   | true =>azF H pl (cells.take off++aaG v++cells.drop (off+size)) rest
   | false =>none
  | none =>none
def aIL (R:aa6):List (Nat×Operand)→Option (List (Nat×V))
 | [] =>some []
 | (i,x)::l =>match evO R x with
  | some v =>match aIL R l with
   | some vs =>some ((i,v)::vs)
   | none =>none
  | none =>none
section
variable {K:KT} {ρ:Env} {B:Nat} {w:World}
theorem atQ {R:aa6}:∀ {l:List (Nat×Operand)} {vs:List (Nat×V)},aIL R l=some vs→EvalPs (dR ρ R) l (vs.map fun p =>(p.1,aay ρ p.2))
 | [],vs,h =>by cases h; exact .nil
 | (i,x)::l,vs,h =>by
  unfold aIL at h
  split at h
  ·rename_i hx
   split at h
   ·rename_i hl; cases h; exact .cons (aaO hx) (atQ hl)
   ·cases h
  ·cases h
theorem ap1 {H:KT.H K} {X:List aad} (s:Sat B w (dH K ρ H++X)) {pl:Nat→Option (Nat×Nat)}:∀ {ps:List (Nat×V)} {cells out:List V},azF H pl cells ps=some out →
  Instr.fill pl (aah ρ cells).toArray (ps.map fun p =>(p.1,aay ρ p.2))=some (aah ρ out).toArray∧out.length=cells.length
 | [],cells,out,h =>by cases h; exact ⟨rfl,rfl⟩
 | (i,v)::ps,cells,out,h =>by
  unfold azF at h
  split at h
  ·rename_i off size hp
   split at h
   ·rename_i hB
    simp only [Bool.and_eq_true] at hB
    obtain ⟨⟨b1,b2⟩,b3⟩:=hB
    have b1':=Nat.eq_of_beq_eq_true b1
    have b2':=Nat.le_of_ble_eq_true b2
    obtain ⟨hc,_⟩:=anC b3 s
    obtain ⟨ih,hl⟩:=ap1 s h
    have hlen:(aah ρ cells).length=cells.length:=by rw [aaS]; simp
    have hcl:(aay ρ v).cells.size=size:=by
     have:=congrArg List.length hc
     rw [aaS] at this; simpa [b1'] using this
    refine ⟨?_,by rw [hl]; simp; omega⟩
    rw [List.map_cons,Instr.fill]
    simp only [hp,hcl]
    rw [if_neg (by simp [hlen]; omega)]
    rw [← ih]
    congr 1
    apply Array.ext'
    rw [← Array.foldl_toList,Array.toList_zipIdx,hc]
    have:=amB (aah ρ (aaG v)) 0 off (aah ρ cells).toArray (by rw [aaS (aaG v)]; simp [hlen,b1']; omega)
    rw [Nat.add_zero] at this
    rw [this]
    simp [aaS,b1']
   ·cases h
  ·cases h
end
def plS (P:Program):List Field→Option (List (Nat×Nat))
 | [] =>some []
 | f::l =>match P.info? f.type with
  | some i =>match plS P l with
   | some r =>some ((f.offset,i.size)::r)
   | none =>none
  | none =>none
theorem aA1 {P:Program} {w:World}:∀ {l:List Field} {r:List (Nat×Nat)},plS P l=some r→(l.mapM (m:=Sem) fun f =>do pure (f.offset,← sizeOf f.type)).run P w=.ok r w
 | [],r,h =>by cases h; rfl
 | f::l,r,h =>by
  unfold plS at h
  split at h
  ·rename_i i hi
   split at h
   ·rename_i r' hr
    cases h
    rw [List.mapM_cons]
    have h1:(sizeOf f.type).run P w=.ok i.size w:=by unfold sizeOf; rw [aaa (acn hi)]; rfl
    rw [aaa (a:=(f.offset,i.size)) (w':=w) (by rw [aaa h1]; rfl),aaa (aA1 hr)]
    rfl
   ·cases h
  ·cases h
section
variable (K:KT)
def aL8 (P:Program) (R:aa6) (H:KT.H K) (T:TypeId) (parts:List (Nat×Operand)):Option V :=
 match P.underlying T with
 | some (.struct fs) =>match awg P T with
  | some z =>match plS P fs.toList with
   | some pl =>match aIL R parts with
    | some ps =>(azF H (fun i =>pl[i]?) z ps).map .agg
    | none =>none
   | none =>none
  | none =>none
 | some (.array _ E) =>match awg P T with
  | some z =>match P.info? E with
   | some inf =>match aIL R parts with
    | some ps =>(azF H (fun i =>some (i*inf.size,inf.size)) z ps).map .agg
    | none =>none
   | none =>none
  | none =>none
 | _ =>none
def aLi (P:Program) (R:aa6) (H:KT.H K) (T:TypeId) (m:Nat) (parts:List (Nat×Operand)):Option (Nat×List V) :=
 match P.underlying T with
 | some (.slice E) =>match P.info? E with
  | some inf =>match inf.zero with
   | some z =>match aIL R parts with
    | some ps =>match Nat.ble (m*inf.size) 16777216 && Nat.blt 0 (m*inf.size) with
     | true =>(azF H (fun i =>some (i*inf.size,inf.size)) (((Array.range (m*inf.size)).map (z.cells[· % z.cells.size]!)).toList.map aC3) ps).map fun l =>(inf.size,l)
     | false =>none
    | none =>none
   | none =>none
  | none =>none
 | _ =>none
end
section
variable {K:KT} {P:Program} {ρ:Env} {B:Nat} {w:World}
theorem ars (l:List Value):aah ρ (l.map aC3)=l:=by
 rw [aaS,List.map_map]
 have:(aay ρ ∘ aC3)=id:=by funext x; exact ajF ρ x
 rw [this,List.map_id]
theorem aIe {R:aa6} {H:KT.H K} {X:List aad} {T:TypeId} {parts:Array (Nat×Operand)} {v:V} {nt:Nat} {a:Act} (s:Sat B w (dH K ρ H++X)) (r:Regs nt a (dR ρ R)) (h:aL8 K P R H T parts.toList=some v) :
  ∀ w',(Instr.build T (parts.map fun (i,x) =>(i,a.eval x))).run P w'=.ok (aay ρ v) w':=by
 intro w'
 unfold aL8 at h
 split at h
 ·rename_i fs hU
  split at h
  ·rename_i z hz
   split at h
   ·rename_i pl hpl
    split at h
    ·rename_i ps hps
     simp only [Option.map_eq_some_iff] at h
     obtain ⟨l,hl,rfl⟩:=h
     simp only [awg,Option.map_eq_some_iff] at hz
     obtain ⟨zv,hz,rfl⟩:=hz
     have hf:=(ap1 s hl).1
     rw [ars] at hf
     have e:=(atQ (ρ:=ρ) hps).eval r
     unfold Instr.build
     rw [aaa (asI hz),aaa (acw hU)]
     simp only
     have hfs:fs=fs.toList.toArray:=by simp
     rw [hfs]
     simp only [List.mapM_toArray]
     rw [aaa (a:=pl.toArray) (w':=w') (by rw [map_eq_pure_bind]; exact aaa (aA1 hpl))]
     simp only [Array.toList_map,e]
     have hf':Instr.fill (fun i =>pl.toArray[i]?) zv.cells (ps.map fun p =>(p.1,aay ρ p.2))=some (aah ρ l).toArray:=by simpa using hf
     rw [hf']; rfl
    ·cases h
   ·cases h
  ·cases h
 ·rename_i E hU
  split at h
  ·rename_i z hz
   split at h
   ·rename_i inf hi
    split at h
    ·rename_i ps hps
     simp only [Option.map_eq_some_iff] at h
     obtain ⟨l,hl,rfl⟩:=h
     simp only [awg,Option.map_eq_some_iff] at hz
     obtain ⟨zv,hz,rfl⟩:=hz
     have hf:=(ap1 s hl).1
     rw [ars] at hf
     have e:=(atQ (ρ:=ρ) hps).eval r
     unfold Instr.build
     rw [aaa (asI hz),aaa (acw hU)]
     simp only
     have h1:(sizeOf E).run P w'=.ok inf.size w':=by unfold sizeOf; rw [aaa (acn hi)]; rfl
     rw [aaa h1]
     simp only [Array.toList_map,e]
     have hf':Instr.fill (fun i =>some (i*inf.size,inf.size)) zv.cells (ps.map fun p =>(p.1,aay ρ p.2))=some (aah ρ l).toArray:=by simpa using hf
     rw [hf']; rfl
    ·cases h
   ·cases h
  ·cases h
 ·cases h
theorem aBV {R:aa6} {H:KT.H K} {X:List aad} {T:TypeId} {m sz:Nat} {parts:Array (Nat×Operand)} {l:List V} {nt:Nat} {a:Act} (s:Sat B w (dH K ρ H++X)) (r:Regs nt a (dR ρ R)) (h:aLi K P R H T m parts.toList=some (sz,l)) :
  ∃ E,l.length=m*sz∧m≤maxLen∧(Instr.buildSlice T m (parts.map fun (i,x) =>(i,a.eval x))).run P w=.ok (.slice (some ⟨w.heap.size,0,none⟩) m m) (w.alloc (.cells (aah ρ l).toArray E)):=by
 unfold aLi at h
 split at h
 ·rename_i E hU
  split at h
  ·rename_i inf hi
   split at h
   ·rename_i z hz
    split at h
    ·rename_i ps hps
     split at h
     ·rename_i hB
      simp only [Option.map_eq_some_iff,Prod.mk.injEq] at h
      obtain ⟨l',hl,rfl,rfl⟩:=h
      simp only [Bool.and_eq_true] at hB
      have b1:=Nat.le_of_ble_eq_true hB.1
      have b2:0<m*inf.size:=Nat.le_of_ble_eq_true hB.2
      obtain ⟨hf,hlen⟩:=ap1 s hl
      rw [ars] at hf
      have e:=(atQ (ρ:=ρ) hps).eval r
      have hs0:0<inf.size:=Nat.pos_of_mul_pos_left b2
      refine ⟨E,by rw [hlen]; simp,?_,?_⟩
      ·have:m*1≤m*inf.size:=Nat.mul_le_mul_left _ hs0
       unfold maxLen; omega
      ·unfold Instr.buildSlice
       rw [aaa (acw hU)]
       simp only
       have h1:(sizeOf E).run P w=.ok inf.size w:=by unfold sizeOf; rw [aaa (acn hi)]; rfl
       rw [aaa h1]
       rw [if_neg (by omega)]
       have h2:(zeroValue E).run P w=.ok z w:=by unfold zeroValue; rw [aaa (acn hi)]; simp only [hz]; rfl
       simp only [Array.toList_map,e]
       have hf':Instr.fill (fun i =>some (i*inf.size,inf.size)) ((Array.range (m*inf.size)).map (z.cells[· % z.cells.size]!)) (ps.map fun p =>(p.1,aay ρ p.2))=some (aah ρ l').toArray:=by
        rw [← hf,Array.toArray_toList]
       simp only [if_neg (show ¬ m*inf.size=0 by omega)]
       rw [aaa h2]
       show (Sem.run P _ w)=_
       simp only [pure_bind,hf']
       unfold newRow newObj
       simp [Sem.run,World.alloc_eq]
     ·cases h
    ·cases h
   ·cases h
  ·cases h
 ·cases h
end
end
end Go.Proofs.YtidhehdanppcoaaGreat
