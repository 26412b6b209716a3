/- Evaluation by itself,8: operations,regions. No program occurs here. Evaluation by itself,9: regions,code,calls by their bodies. No program occurs here. -/
import Derived.Test.YteapeojalliebaaGreatIzad
import Derived.Test.YteapeojalliebaaGreatIzae
set_option linter.all false
namespace Go.Proofs.YteapeojalliebaaGreat
section
open Go Go.RowKit
section
variable (K:KT)
def rd1 (H:KT.H K) (id o:Nat):Option V:=match opn K 0 H id o with
 | some (false,_,v) =>some v
 | _ =>none
def rdN (H:KT.H K) (id:Nat):Nat→Nat→Option (List V)
 | 0,_ =>some []
 | k+1,o =>match rd1 K H id o with
  | some v =>match rdN H id k (o+1) with
   | some l =>some (v::l)
   | none =>none
  | none =>none
def ldV (P:Program) (H:KT.H K) (T:TypeId) (x:V):Option V :=
 match x with
 | .ptr id o =>match afL P T with
  | some none =>rd1 K H id o
  | some (some k) =>(rdN K H id k o).map .agg
  | none =>none
 | _ =>none
end
section
variable {K:KT} {P:Program} {B:Nat}
theorem axK {H:KT.H K} {id o:Nat} {v:V} (h:rd1 K H id o=some v) {ρ:Env} {w:World} {X:List aad} (s:Sat B w (dH K ρ H++X)):w.cell? ⟨(ρ.p id).1,(ρ.p id).2+o,none⟩=some (aav ρ v):=by
 unfold rd1 at h
 split at h
 ·rename_i h1
  cases h
  obtain ⟨ρ',⟨_,he⟩,_,hc⟩:=au4 (X:=fun _ =>X) h1 (fun e =>by cases e) s
  obtain rfl:=he rfl
  exact hc
 ·cases h
theorem axJ {H:KT.H K} {id:Nat}:∀ {k o:Nat} {l:List V},rdN K H id k o=some l→∀ {ρ:Env} {w:World} {X:List aad},Sat B w (dH K ρ H++X)→l.length=k∧∀ j v,(aag ρ l)[j]?=some v→w.cell? ⟨(ρ.p id).1,(ρ.p id).2+o+j,none⟩=some v
 | 0,o,l,h,ρ,w,X,s =>by cases h; exact ⟨rfl,fun j v hj =>by simp [aag] at hj⟩
 | k+1,o,l,h,ρ,w,X,s =>by
  unfold rdN at h
  split at h
  ·rename_i v h1
   split at h
   ·rename_i l' h2
    cases h
    obtain ⟨hl,hc⟩:=axJ h2 s
    refine ⟨by simp [hl],fun j u hj =>?_⟩
    cases j with
    | zero =>
     simp only [aag,List.getElem?_cons_zero,Option.some.injEq] at hj
     rw [← hj]; exact axK h1 s
    | succ j =>
     simp only [aag,List.getElem?_cons_succ] at hj
     rw [← hc j u hj]; congr 2; omega
   ·cases h
  ·cases h
theorem aGQ {o:Oper} {H:KT.H K} {T:TypeId} {x:Operand} {u v:V} {R:aa3} {nt:Nat} (ho:o.op=.load T x) (hx:evO R x=some u) (h:ldV K P H T u=some v) {ρ:Env} {a:Act} {w:World} {X:List aad} (r:Regs nt a (dR ρ R)) (s:Sat B w (dH K ρ H++X)) :
  (execOp a.eval o).run P w=.ok (.value (aav ρ v)) w:=by
 obtain ⟨d,op,ty,ps,af,g⟩:=o
 simp only at ho
 subst ho
 have ex:=(aaI (ρ:=ρ) hx).eval r
 unfold ldV at h
 split at h
 ·rename_i id o'
  have fin:(Instr.loadAt T (.pointer (some ⟨(ρ.p id).1,(ρ.p id).2+o',none⟩))).run P w=.ok (aav ρ v) w→(execOp a.eval ⟨d,.load T x,ty,ps,af,g⟩).run P w=.ok (.value (aav ρ v)) w:=fun h6 =>by
   simp only [execOp,ex,aav]
   rw [aaa h6]; rfl
  split at h
  ·rename_i hT
   exact fin (akD hT (axK h s))
  ·rename_i k hT
   simp only [Option.map_eq_some_iff] at h
   obtain ⟨l,hl,rfl⟩:=h
   obtain ⟨h1,h2⟩:=axJ hl s
   exact fin (alm hT (by rw [aaT]; simpa using h1) h2 rfl)
  ·cases h
 ·cases h
end
section
variable (K:KT)
def aHf (P:Program) (R:aa3) (n:Nat) (Z H:KT.H K) (T:TypeId) (x:V):Option (Nat×KT.H K×V) :=
 match x with
 | .ptr id o =>match afL P T with
  | some none =>match get (H++Z) id with
   | some (.elt j i sz) =>match get (H++Z) j with
    | some (.rr c xss) =>match Nat.beq sz 1 && Nat.beq o 0 && (Nat.ble (agi (H++Z)) n && Nat.ble (axq R) n) with
     | true =>some (n+1,(n,.ro c (atL [] xss i))::H,.sl n)
     | false =>none
    | _ =>none
   | _ =>none
  | _ =>none
 | _ =>none
end
section
variable {K:KT} {P:Program} {nt n B:Nat} {W:World} {R:aa3} {Z H:KT.H K} {nx:Nat→KT.H K→V→Prop}
theorem ary {ρ:Env} (H H':KT.H K):dH K ρ (H++H')=dH K ρ H++dH K ρ H':=by simp [dH]
theorem aF3 {ρ:Env} {j c:Nat} {xss:List (List (K.T c))} (hg:get H j=some (.rr c xss)) {X:List aad}:Ent (dH K ρ H++X) (acq K ρ j (.rr c xss)::(dH K ρ H++X)):=fun h0 t0 =>by
 obtain ⟨j1,j2,a1,e1,⟨m1,ps,m2⟩,mL⟩:=aaQ (ρ:=ρ) hg h0 t0
 obtain ⟨p,hp,hΦ⟩:=m2
 have hpp:∀ b o x,p b o=some x→(∃ v,x=.look v)∧h0 b o=some x:=fun b o x hx =>⟨(hp b o x hx).1,by rw [e1]; unfold adr; rw [(hp b o x hx).2]⟩
 refine ⟨p,h0,fun b o =>?_,?_,⟨m1,ps,p,fun b o x hx =>⟨(hpp b o x hx).1,hx⟩,hΦ⟩,t0⟩
 ·cases hpb:p b o with
  | none =>exact .inl rfl
  | some x =>
   obtain ⟨⟨v,rfl⟩,h2⟩:=hpp b o x hpb
   exact .inr (.inr ⟨v,rfl,h2⟩)
 ·funext b o
  unfold adr
  cases hpb:p b o with
  | none =>rfl
  | some x =>exact (hpp b o x hpb).2
theorem ayL {o:Oper} {T:TypeId} {x:Operand} {u v:V} {n':Nat} {H':KT.H K} (ho:o.op=.load T x) (hx:evO R x=some u) (h:aHf K P R n Z H T u=some (n',H',v)) (hn:nx n' H' v):aeZ K P nt B W o R n Z H nx:=fun F ρ a w s =>by
 obtain ⟨d,op,ty,ps,af,g⟩:=o
 simp only at ho
 subst ho
 have ex:=(aaI (ρ:=ρ) hx).eval s.regs
 unfold aHf at h
 split at h
 ·rename_i id o'
  split at h
  ·rename_i hT
   split at h
   ·rename_i j i sz hgi
    split at h
    ·rename_i c xss hgj
     split at h
     ·rename_i hB
      cases h
      simp only [Bool.and_eq_true] at hB
      obtain ⟨⟨b1,b2⟩,b3,b4⟩:=hB
      have hn1:agi (H++Z)≤n:=Nat.le_of_ble_eq_true b3
      have hji:=ai9 hgi
      have hjn:j<n:=Nat.lt_of_lt_of_le (ai9 hgj).1 hn1
      have hin:id<n:=Nat.lt_of_lt_of_le hji.1 hn1
      have s0:Sat B w (dH K ρ (H++Z)++[F]):=by rw [ary,List.append_assoc]; exact s.sat
      have he:=avx s0 hgi
      have s1:=s0.imp (aF3 (ρ:=ρ) hgj)
      have s2:Sat B w (dH K ρ [(id,.elt j i sz),(j,.rr c xss)]++(dH K ρ (H++Z)++[F])):=abn s1 fun k =>he
      have hne:Nat.beq id j=false:=by
       cases hq:Nat.beq id j with
       | false =>rfl
       | true =>
        have:=Nat.eq_of_beq_eq_true hq
        subst this
        rw [hgi] at hgj; cases hgj
      have hop:opn K n [(id,.elt j i sz),(j,.rr c xss)] id o'=some (true,(n,.ro c (atL [] xss i))::(j,.rr c xss)::del [(id,.elt j i sz),(j,.rr c xss)] j,.sl n):=by
       have g1:get [(id,(Ch.elt j i sz:Ch K.T K.M)),(j,.rr c xss)] id=some (.elt j i sz):=by unfold get; rw [Nat.beq_refl]
       have g2:get [(id,(Ch.elt j i sz:Ch K.T K.M)),(j,.rr c xss)] j=some (.rr c xss):=by unfold get; rw [hne]; simp only [get]; rw [Nat.beq_refl]
       have g3:Nat.ble (agi [(id,(Ch.elt j i sz:Ch K.T K.M)),(j,.rr c xss)]) n=true:=by
        refine Nat.ble_eq_true_of_le ?_
        refine arX ⟨arX ⟨hin,?_⟩,arX ⟨arX ⟨hjn,Nat.zero_le _⟩,Nat.zero_le _⟩⟩
        exact hjn
       unfold opn
       simp only [g1,g2,b1,b2,g3,Bool.and_self]
      obtain ⟨ρ',⟨ha,_⟩,s3,hc⟩:=au4 (X:=fun ρ =>dH K ρ (H++Z)++[F]) hop (fun _ ρ' ha =>by rw [aca ha _ hn1]) s2
      have s4:Sat B w (dS K ρ' Z ((n,.ro c (atL [] xss i))::H) F):=by
       have e:dS K ρ' Z ((n,.ro c (atL [] xss i))::H) F=acq K ρ' n (.ro c (atL [] xss i))::(dH K ρ' (H++Z)++[F]):=by
        rw [ary,List.append_assoc]; rfl
       rw [e]
       refine s3.imp fun k hk =>?_
       exact abz (fun q hq =>ahH (L:=dH K ρ' ((j,.rr c xss)::del [(id,.elt j i sz),(j,.rr c xss)] j)) hq) hk
      have:(execOp a.eval ⟨d,.load T x,ty,ps,af,g⟩).run P w=.ok (.value (aav ρ' (.sl n))) w:=by
       simp only [execOp,ex,aav]
       rw [aaa (akD hT hc)]; rfl
      rw [this]
      exact ⟨⟨ρ',n+1,(n,.ro c (atL [] xss i))::H,.sl n⟩,rfl,⟨ha,Nat.le_succ _,(abX ha _ (Nat.le_of_ble_eq_true b4)).symm,hn⟩,s.below,s.lo,s4⟩
     ·cases h
    ·cases h
   ·cases h
  ·cases h
 ·cases h
end
def agX:Nat:=1000000000
def mI (name : String) : Option Nat := if name = "Step" then some 0 else if name = "Result" then some 1 else if name = "Copy" then some 2 else none
def mN:Nat→String
 | 0 =>"Step"
 | 1 =>"Result"
 | _ =>"Copy"
theorem aKO {name:String} {i:Nat} (h:mI name=some i):mN i=name:=by
 unfold mI at h
 split at h
 ·cases h; rename_i e; exact e.symm
 ·split at h
  ·cases h; rename_i e; exact e.symm
  ·split at h
   ·cases h; rename_i e; exact e.symm
   ·cases h
def agT (P:Program) (fid:FuncId) (args:Array Value) (w:World) (Q:Ending→World→Prop):Prop :=
 match Nat.blt fid agX with
 | true =>Calls P fid args w Q
 | false =>∃ (T:TypeId) (u:Value) (rest:Array Value) (f:FuncId),args=#[.iface T u]++rest∧(∀ w',(callMethod (.iface T u) (mN (fid-agX)) rest).run P w'=.ok (.enter f (#[u]++rest)) w')∧Calls P f (#[u]++rest) w Q
theorem aeA {P:Program} {fid:FuncId} {args:Array Value} {w:World} {Q:Ending→World→Prop} (h:Nat.blt fid agX=true):agT P fid args w Q=Calls P fid args w Q:=by
 unfold agT; rw [h]
theorem arF {P:Program} {i:Nat} {args:Array Value} {w:World} {Q:Ending→World→Prop}:agT P (agX+i) args w Q=∃ (T:TypeId) (u:Value) (rest:Array Value) (f:FuncId),args=#[.iface T u]++rest∧(∀ w',(callMethod (.iface T u) (mN i) rest).run P w'=.ok (.enter f (#[u]++rest)) w')∧Calls P f (#[u]++rest) w Q:=by
 have h:Nat.blt (agX+i) agX=false:=by
  cases hb:Nat.blt (agX+i) agX with
  | false =>rfl
  | true =>have:=Nat.le_of_ble_eq_true hb; omega
 unfold agT
 rw [h,show agX+i-agX=i by omega]
theorem agT.mono {P:Program} {fid:FuncId} {args:Array Value} {w:World} {Q Q':Ending→World→Prop} (h:agT P fid args w Q) (hq:∀ e w',Q e w'→Q' e w'):agT P fid args w Q':=by
 unfold agT at h ⊢
 split at h
 ·exact Calls.mono h hq
 ·obtain ⟨T,u,rest,f,e,h1,h2⟩:=h
  exact ⟨T,u,rest,f,e,h1,Calls.mono h2 hq⟩
def aGJ (P:Program) (T:TypeId) (name:String):Option FuncId :=
 match P.info? T with
 | some ti =>match ti.methods.find? (fun m =>m.name == name) with
  | some m =>match m.path.toList with
   | [] =>match m.func with
    | some (f,true) =>match P.underlying T with
     | some (.pointer _) =>some f
     | _ =>none
    | _ =>none
   | _ =>none
  | none =>none
 | none =>none
theorem aDC {P:Program} {T:TypeId} {name:String} {f:FuncId} (h:aGJ P T name=some f) (hc:azd P f=true) (u:Value) (vs:Array Value) (w:World) :
  (callMethod (.iface T u) name vs).run P w=.ok (.enter f (#[u]++vs)) w:=by
 unfold aGJ at h
 split at h
 ·rename_i ti hti
  split at h
  ·rename_i m hm
   split at h
   ·rename_i hp
    split at h
    ·rename_i g hg
     split at h
     ·rename_i el hu
      cases h
      have h1:(typeInfo T).run P w=.ok ti w:=by
       unfold typeInfo
       rw [aaa (a:=P) (w':=w) rfl,hti]; rfl
      have h2:(underlying T).run P w=.ok (.pointer el) w:=by
       unfold underlying
       rw [aaa (a:=P) (w':=w) rfl,hu]; rfl
      have h3:∀ s,(receiverAt T (.val u) true s).run P w=.ok u w:=fun s =>by
       unfold receiverAt
       rw [aaa h2]; rfl
      have h4:∀ k,(method (k+1) T u name).run P w=.ok (f,u) w:=fun k =>by
       unfold method
       rw [aaa h1]
       simp only [hm,hp]
       rw [aaa (a:=(T,Place.val u)) (w':=w) rfl]
       simp only [hg]
       rw [aaa (h3 _)]; rfl
      unfold callMethod
      rw [aaa (a:=P) (w':=w) rfl]
      rw [show P.types.size+Made.depth=(P.types.size+Made.depth-1)+1 from (Nat.succ_pred_eq_of_pos (Nat.lt_of_lt_of_le (by decide) (Nat.le_add_left _ _))).symm]
      rw [aaa (h4 _)]
      exact ayz hc _
     ·cases h
    ·cases h
   ·cases h
  ·cases h
 ·cases h
theorem au7 {P:Program} {a:Act} {w:World} {x:Operand} {name:String} {f:FuncId} {xs:Array Operand} {ts:Array TypeId} {vs:List Value} {T:TypeId} {u:Value} {d:Option Tmp} {ty:TypeId} {ps:String} {af:Array Edge} {g:Option (Nat×Bool)} (hx:a.eval x=.iface T u) (hxs:xs.toList.map a.eval=vs) (hc:(callMethod (.iface T u) name vs.toArray).run P w=.ok (.enter f (#[u]++vs.toArray)) w) :
  (execOp a.eval ⟨d,.call ⟨.invoke x name,xs,ts⟩,ty,ps,af,g⟩).run P w=.ok (.enter f (#[u]++vs.toArray)) w:=by
 have e:xs.map a.eval=vs.toArray:=by apply Array.ext'; rw [Array.toList_map,hxs]
 simp only [execOp,resolve,e,hx]
 rw [aaa (a:=({ target:=.fn (.method name) #[],args:=#[.iface T u]++vs.toArray }:Deferred)) (w':=w) rfl]
 simp only [invoke]
 have e0:(#[Value.iface T u]++vs.toArray)[0]?=some (.iface T u):=by simp
 have e1:(#[Value.iface T u]++vs.toArray).extract 1 (#[Value.iface T u]++vs.toArray).size=vs.toArray:=by apply Array.ext'; simp
 rw [e0,e1]
 exact hc
def avs {α:Type} (j:Int) (f:Nat→Option α):Nat→Option α
 | 0 =>none
 | m+1 =>if j=((m:Nat):Int) then f m else avs j f m
theorem als {α:Type} {j:Int} {f:Nat→Option α} {out:α}:∀ {m:Nat},avs j f m=some out→∃ i,i<m∧j=((i:Nat):Int)∧f i=some out
 | 0,h =>by cases h
 | m+1,h =>by
  unfold avs at h
  split at h
  ·rename_i e; exact ⟨m,Nat.lt_succ_self m,e,h⟩
  ·obtain ⟨i,h1,h2⟩:=als h
   exact ⟨i,Nat.lt_succ_of_lt h1,h2⟩
def aHQ (P:Program) (R:aa3) (T:TypeId) (x y:Operand):Option ((Nat×Nat)×(Nat×Int×Nat)×IntKind) :=
 match evO R x with
 | some (.ptr id o) =>match P.underlying T with
  | some (.array len elem) =>match evO R y with
   | some u =>match alp u with
    | some (k,j,_) =>match P.info? elem with
     | some inf =>some ((id,o),(len,j,inf.size),k)
     | none =>none
    | none =>none
   | none =>none
  | _ =>none
 | _ =>none
theorem aBq {P:Program} {ρ:Env} {R:aa3} {T:TypeId} {x y:Operand} {id o len sz:Nat} {j:Int} {kk:IntKind} (h:aHQ P R T x y=some ((id,o),(len,j,sz),kk)) {nt:Nat} {a:Act} (r:Regs nt a (dR ρ R)) {i:Nat} (hi:i<len) (hj:j=((i:Nat):Int))
  {d:Option Tmp} {ty:TypeId} {ps:String} {af:Array Edge} {g:Option (Nat×Bool)} (w:World):(execOp a.eval ⟨d,.indexAddr T x y,ty,ps,af,g⟩).run P w=.ok (.value (aav ρ (.ptr id (o+i*sz)))) w:=by
 unfold aHQ at h
 split at h
 ·rename_i id' o' hx
  have ex:=(aaI (ρ:=ρ) hx).eval r
  split at h
  ·rename_i len' elem hu
   split at h
   ·rename_i u hy
    split at h
    ·rename_i k j' l hi'
     have ey:=(acj (ρ:=ρ) hy hi').eval r
     split at h
     ·rename_i inf hinf
      cases h
      subst hj
      have h1:(0:Int)≤((i:Nat):Int)∧((i:Nat):Int)<(len:Int):=by omega
      have h2:(Instr.indexAt T (.pointer (some ⟨(ρ.p id).1,(ρ.p id).2+o,none⟩)) (.int kk ((i:Nat):Int))).run P w=.ok (.pointer (some ⟨(ρ.p id).1,(ρ.p id).2+(o+i*inf.size),none⟩)) w:=by
       simp [Instr.indexAt,asIntOf,acx hu,sizeOf,acz hinf,h1,hi,Instr.sureAddr,ad4,Nat.add_assoc]
      simp only [execOp,ex,ey,aav]
      rw [aaa h2]; rfl
     ·cases h
    ·cases h
   ·cases h
  ·cases h
 ·cases h
def aK8 (P:Program) (R:aa3) (T:TypeId) (x y:Operand):Option ((Nat×Nat)×(Nat×Int×Nat)×Int) :=
 match evO R x with
 | some (.vs id o k c) =>match ahq P T with
  | some sz =>match evO R y with
   | some u =>match alp u with
    | some (_,j,_) =>some ((id,o),(c,j,sz),k)
    | none =>none
   | none =>none
  | none =>none
 | _ =>none
theorem aHg {P:Program} {ρ:Env} {R:aa3} {T:TypeId} {x y:Operand} {id o len sz:Nat} {j kb:Int} (h:aK8 P R T x y=some ((id,o),(len,j,sz),kb)) (hb:j<kb) {nt:Nat} {a:Act} (r:Regs nt a (dR ρ R)) {i:Nat} (hj:j=((i:Nat):Int))
  {d:Option Tmp} {ty:TypeId} {ps:String} {af:Array Edge} {g:Option (Nat×Bool)} (w:World):(execOp a.eval ⟨d,.indexAddr T x y,ty,ps,af,g⟩).run P w=.ok (.value (aav ρ (.ptr id (o+i*sz)))) w:=by
 unfold aK8 at h
 split at h
 ·rename_i id' o' k' c' hx
  have ex:=aaI (ρ:=ρ) hx
  split at h
  ·rename_i sz' hsz
   split at h
   ·rename_i u hy
    split at h
    ·rename_i kk j' l hi
     have ey:=acj (ρ:=ρ) hy hi
     cases h
     subst hj
     have:=(ajd (P:=P) (n:=nt) (d:=d) (ty:=ty) (ps:=ps) (af:=af) (g:=g) (i:=i) (o':=(ρ.p id).2+(o+i*sz)) ex ey rfl (by omega) hsz (by omega)) a w r
     simpa only [aav] using this
    ·cases h
   ·cases h
  ·cases h
 ·cases h
def aJ9 (R:aa3) (y:Operand) (k:IntKind) (i:Nat):aa3:=match y with
 | .tmp t =>match get R t with
  | some (.i _ _) =>(t,.l k ((i:Nat):Int))::del R t
  | _ =>R
 | _ =>R
theorem atA {α:Type} {t:Nat} {v:α} {C:List (Nat×α)}:∀ {R:List (Nat×α)},get R t=some v→get (R++C) t=some v
 | [],h =>by cases h
 | (t',v')::R,h =>by
  rw [List.cons_append]
  unfold get at h ⊢
  cases hb:Nat.beq t' t with
  | true =>rw [hb] at h; exact h
  | false =>rw [hb] at h; exact atA h
theorem aD1 {P:Program} {ρ:Env} {R:aa3} {T:TypeId} {x y:Operand} {q:Nat×Nat} {len sz:Nat} {j:Int} {kk:IntKind} (h:aHQ P R T x y=some (q,(len,j,sz),kk)):∃ u,evO R y=some u∧aav ρ u=.int kk j:=by
 unfold aHQ at h
 split at h
 ·split at h
  ·split at h
   ·rename_i u hy
    split at h
    ·rename_i hi
     split at h
     ·cases h; exact ⟨u,hy,agp hi⟩
     ·cases h
    ·cases h
   ·cases h
  ·cases h
 ·cases h
theorem aAd {ρ:Env} {R C:aa3} {y:Operand} {k:IntKind} {i nt:Nat} {u:V} {a:Act} (hu:evO (R++C) y=some u) (hd:aav ρ u=.int k ((i:Nat):Int)) (r:Regs nt a (dR ρ (R++C))):Regs nt a (dR ρ (aJ9 R y k i++C)):=by
 unfold aJ9
 split
 ·rename_i t
  split
  ·rename_i k' j' hg
   have hg':get (R++C) t=some (.i k' j'):=atA hg
   have e:u=.i k' j':=by
    have:get (R++C) t=some u:=hu
    rw [hg'] at this; exact (Option.some.inj this).symm
   refine ⟨r.size,r.defers,fun p hp =>?_⟩
   obtain ⟨q,hq,rfl⟩:=List.mem_map.1 hp
   rcases List.mem_append.1 hq with h1 | h1
   ·rcases List.mem_cons.1 h1 with e1 | e1
    ·subst e1
     have:=r.has _ (alU (ρ:=ρ) hg')
     rw [← e,hd] at this
     exact this
    ·exact r.has _ (List.mem_map.2 ⟨q,List.mem_append_left _ (ajt e1).1,rfl⟩)
   ·exact r.has _ (List.mem_map.2 ⟨q,List.mem_append_right _ h1,rfl⟩)
  ·exact r
 ·exact r
abbrev amm (K:KT):=(α:Type)→FuncId→List V→Nat→KT.H K→KT.H K→(Nat→KT.H K→V→Option α)→Option α
def alX (K:KT) (P:Program) (B:Nat) (W:World) (call:amm K):Prop :=
 ∀ (α:Type) fid vs n Z H (k:Nat→KT.H K→V→Option α) out,call α fid vs n Z H k=some out→ai8 vs≤n→agi Z≤n→agi H≤n→∀ F ρ w,Cls B W (dS K ρ Z H F) w →
  agT P fid (aag ρ vs).toArray w fun e w' =>∃ x:Nx K,(aaA n ρ x.ρ∧n≤x.n∧k x.n x.H x.v=some out)∧e=.returned (aav x.ρ x.v)∧Cls B W (dS K x.ρ Z x.H F) w'
section
variable (K:KT) (P:Program) (call:amm K) {α:Type}
def stp (o:Oper) (R:aa3) (n:Nat) (Z H:KT.H K) (k:Nat→KT.H K→V→Option α):Option α :=
  match evX K P R n Z H o.op with
  | some (gs,n',H',v) =>gds gs (k n' H' v)
  | none =>match aK6 K P R n Z H o.op with
   | some (n',H',v) =>k n' H' v
   | none =>match o.op with
    | .load T x =>match evO R x with
      | some u =>match ldV K P (H++Z) T u with
        | some v =>k n H v
        | none =>match aAD K H u with
          | some H1 =>match aKh K P R n Z H1 T u with
            | some (n',H',v) =>k n' H' v
            | none =>none
          | none =>match aKh K P R n Z H T u with
            | some (n',H',v) =>k n' H' v
            | none =>match aHf K P R n Z H T u with
              | some (n',H',v) =>k n' H' v
              | none =>none
      | none =>none
    | .store T x y =>match evO R x with
      | some u =>match evO R y with
        | some v =>match aKg K P H T u v with
          | some H' =>k n H' (.c undef)
          | none =>match aHa K P H T u v with
            | some H' =>k n H' (.c undef)
            | none =>match aAD K H u with
              | some H1 =>match aKg K P H1 T u v with
                | some H' =>k n H' (.c undef)
                | none =>none
              | none =>none
        | none =>none
      | none =>none
    | .alloc T =>match av6 P T with
      | some vs =>match aHJ K R n Z H vs with
        | some (n',H',v) =>k n' H' v
        | none =>none
      | none =>none
    | .indexAddr T x y =>match aHQ P R T x y with
      | some (q,(len,j,sz),_) =>avs j (fun i =>k n H (.ptr q.1 (q.2+i*sz))) len
      | none =>match aK8 P R T x y with
        | some (q,(len,j,sz),kb) =>gds [⟨j<kb,inferInstance⟩] (avs j (fun i =>k n H (.ptr q.1 (q.2+i*sz))) len)
        | none =>match aHP K P R (H++Z) T x y with
          | some (q,(len,j,sz),_) =>avs j (fun i =>k n H (.ptr q.1 (q.2+i*sz))) len
          | none =>none
    | .box _ x =>match evO R x with
      | some u =>match (aaF u).all (scV H) with
        | true =>match aHJ K R n Z H (aaF u) with
          | some (n',H',v) =>k n' H' v
          | none =>none
        | false =>none
      | none =>none
    | .makeSlice T x y =>match evO R x with
      | some u =>match evO R y with
        | some v =>match aK7 K P R n Z H T u v with
          | some (gs,n',H',r) =>gds gs (k n' H' r)
          | none =>none
        | none =>none
      | none =>none
    | .buildSlice T m parts =>match aLa K P R n Z H T m parts.toList with
     | some (n',H',v) =>k n' H' v
     | none =>match aLb K P R n Z H T m parts.toList with
      | some (n',H',v) =>k n' H' v
      | none =>match aLd K P R n Z H T m parts.toList with
        | some (n',H',v) =>k n' H' v
        | none =>none
    | .call c =>match c.callee with
      | .builtin .append =>match c.args.toList with
        | [x,y] =>match c.argTypes.toList with
          | [T,T'] =>match evO R x with
            | some u =>match evO R y with
              | some v =>match aLi K P R n Z H T T' u v with
                | some (gs,n',H',r) =>gds gs (k n' H' r)
                | none =>match aLh K P R n Z H T T' u v with
                  | some (gs,n',H',r) =>gds gs (k n' H' r)
                  | none =>match aLg K P R n Z H T T' u v with
                    | some (gs,n',H',r) =>gds gs (k n' H' r)
                    | none =>match aLf K P R n Z H T T' u v with
                      | some (n',H',r) =>k n' H' r
                      | none =>none
              | none =>none
            | none =>none
          | _ =>none
        | _ =>none
      | .value f =>match evO R f with
        | some (.fn fid caps) =>match aHc R c.args.toList with
          | some vs =>match azd P fid && ab0 K R n Z H && Nat.ble (ai8 (vs++caps)) n && Nat.blt fid agX with
            | true =>call α fid (vs++caps) n Z H k
            | false =>none
          | none =>none
        | _ =>none
      | .invoke x name =>match mI name with
        | some i =>match evO R x with
          | some (.mc id) =>match aHc R c.args.toList with
            | some vs =>match ab0 K R n Z H && Nat.ble (ai8 (.mc id::vs)) n with
              | true =>call α (agX+i) (.mc id::vs) n Z H k
              | false =>none
            | none =>none
          | some (.ifc T u) =>match aGJ P T name with
            | some f =>match aHc R c.args.toList with
              | some vs =>match azd P f && ab0 K R n Z H && Nat.ble (ai8 (u::vs)) n && Nat.blt f agX with
                | true =>call α f (u::vs) n Z H k
                | false =>none
              | none =>none
            | none =>none
          | _ =>none
        | none =>none
      | _ =>none
    | _ =>none
end
section
variable {K:KT} {P:Program} {call:amm K} {α:Type} {nt n B:Nat} {W:World} {R:aa3} {Z H:KT.H K}
theorem aJP {ρ:Env} (H H':KT.H K):dH K ρ (H++H')=dH K ρ H++dH K ρ H':=by simp [dH]
theorem axt {o:Oper} {H1:KT.H K} {nx:Nat→KT.H K→V→Prop} (hT:∀ (ρ:Env) (w:World) (X:List aad),Sat B w (dH K ρ H++X)→Sat B w (dH K ρ H1++X)) (h:aeZ K P nt B W o R n Z H1 nx):aeZ K P nt B W o R n Z H nx :=
 fun F ρ a w s =>h F ρ a w ⟨s.regs,s.below,s.lo,hT ρ w _ s.sat⟩
theorem aEz (hc:alX K P B W call) {o:Oper} {k:Nat→KT.H K→V→Option α} {out:α} (h:stp K P call o R n Z H k=some out):aeZ K P nt B W o R n Z H (fun n' H' v =>k n' H' v=some out):=by
 unfold stp at h
 split at h
 ·rename_i gs n' H' v he
  obtain ⟨h1,h2⟩:=ano h
  intro F ρ a w s
  obtain ⟨ρ',⟨q1,q2,q3⟩,_,q4,q5⟩:=aFa he h1 s.sat s.regs
  rw [q5 w]
  exact ⟨⟨ρ',n',H',v⟩,rfl,⟨q1,q2,q3,h2⟩,s.below,s.lo,q4 w s.sat⟩
 split at h
 ·rename_i he
  exact aHe he h
 ·split at h
  ·rename_i T x ho
   split at h
   ·rename_i u hx
    split at h
    ·rename_i v he
     intro F ρ a w s
     have s1:Sat B w (dH K ρ (H++Z)++[F]):=by rw [aJP,List.append_assoc]; exact s.sat
     rw [aGQ ho hx he s.regs s1]
     exact ⟨⟨ρ,n,H,v⟩,rfl,⟨aaA.refl _ _,Nat.le_refl _,rfl,h⟩,s.cls⟩
    ·split at h
     ·rename_i hop
      split at h
      ·rename_i he
       exact axt (fun _ _ _ =>atj hop) (aut ho hx he h)
      ·cases h
     ·split at h
      ·rename_i he
       exact aut ho hx he h
      ·split at h
       ·rename_i he
        exact ayL ho hx he h
       ·cases h
   ·cases h
  ·rename_i T x y ho
   split at h
   ·rename_i hx
    split at h
    ·rename_i hy
     split at h
     ·rename_i he; exact ar4 ho hx hy he h
     ·split at h
      ·rename_i he; exact awb ho hx hy he h
      ·split at h
       ·rename_i hop
        split at h
        ·rename_i he
         exact axt (fun _ _ _ =>atj hop) (ar4 ho hx hy he h)
        ·cases h
       ·cases h
    ·cases h
   ·cases h
  ·rename_i T ho
   split at h
   ·rename_i hz
    split at h
    ·rename_i he; exact ayM ho hz he h
    ·cases h
   ·cases h
  ·rename_i T x y ho
   split at h
   ·rename_i q len j sz kk he
    obtain ⟨i,h1,h2,h3⟩:=als h
    obtain ⟨id,o'⟩:=q
    intro F ρ a w s
    obtain ⟨d,op,ty,ps,af,g⟩:=o
    simp only at ho
    subst ho
    rw [aBq he s.regs h1 h2 w]
    exact ⟨⟨ρ,n,H,_⟩,rfl,⟨aaA.refl _ _,Nat.le_refl _,rfl,h3⟩,s.cls⟩
   ·split at h
    ·rename_i q len j sz kb he
     obtain ⟨hg,h⟩:=ano h
     have hb:j<kb:=hg _ (List.mem_singleton.2 rfl)
     obtain ⟨i,h1,h2,h3⟩:=als h
     obtain ⟨id,o'⟩:=q
     intro F ρ a w s
     obtain ⟨d,op,ty,ps,af,g⟩:=o
     simp only at ho
     subst ho
     rw [aHg he hb s.regs h2 w]
     exact ⟨⟨ρ,n,H,_⟩,rfl,⟨aaA.refl _ _,Nat.le_refl _,rfl,h3⟩,s.cls⟩
    ·split at h
     ·rename_i q len j sz kk he
      obtain ⟨i,h1,h2,h3⟩:=als h
      obtain ⟨id,o'⟩:=q
      intro F ρ a w s
      obtain ⟨d,op,ty,ps,af,g⟩:=o
      simp only at ho
      subst ho
      rw [aBp he (aeq s.sat) s.regs h1 h2 w]
      exact ⟨⟨ρ,n,H,_⟩,rfl,⟨aaA.refl _ _,Nat.le_refl _,rfl,h3⟩,s.cls⟩
     ·cases h
  ·rename_i T x ho
   split at h
   ·rename_i hx
    split at h
    ·rename_i hs
     split at h
     ·rename_i he; exact aCK ho hx hs he h
     ·cases h
    ·cases h
   ·cases h
  ·rename_i T x y ho
   split at h
   ·rename_i hx
    split at h
    ·rename_i hy
     split at h
     ·rename_i he
      obtain ⟨h1,h2⟩:=ano h
      exact aFy ho hx hy he h1 h2
     ·cases h
    ·cases h
   ·cases h
  ·rename_i T m parts ho
   split at h
   ·rename_i he; exact aFz ho he h
   ·split at h
    ·rename_i he; exact aFA ho he h
    ·split at h
     ·rename_i he; exact aFB ho he h
     ·cases h
  ·rename_i c ho
   split at h
   ·rename_i hf
    split at h
    ·rename_i x y hxs
     split at h
     ·rename_i T T' hts
      split at h
      ·rename_i hx
       split at h
       ·rename_i hy
        split at h
        ·rename_i he
         obtain ⟨h1,h2⟩:=ano h
         obtain ⟨callee,xs,ts⟩:=c
         simp only at hf hxs hts
         subst hf
         obtain rfl:xs=#[x,y]:=by apply Array.ext'; simpa using hxs
         obtain rfl:ts=#[T,T']:=by apply Array.ext'; simpa using hts
         exact aFF ho hx hy he h1 h2
        ·split at h
         ·rename_i he
          obtain ⟨h1,h2⟩:=ano h
          obtain ⟨callee,xs,ts⟩:=c
          simp only at hf hxs hts
          subst hf
          obtain rfl:xs=#[x,y]:=by apply Array.ext'; simpa using hxs
          obtain rfl:ts=#[T,T']:=by apply Array.ext'; simpa using hts
          exact aFE ho hx hy he h1 h2
         ·split at h
          ·rename_i he
           obtain ⟨h1,h2⟩:=ano h
           obtain ⟨callee,xs,ts⟩:=c
           simp only at hf hxs hts
           subst hf
           obtain rfl:xs=#[x,y]:=by apply Array.ext'; simpa using hxs
           obtain rfl:ts=#[T,T']:=by apply Array.ext'; simpa using hts
           exact aFD K.nc ho hx hy he h1 h2
          ·split at h
           ·rename_i he
            obtain ⟨callee,xs,ts⟩:=c
            simp only at hf hxs hts
            subst hf
            obtain rfl:xs=#[x,y]:=by apply Array.ext'; simpa using hxs
            obtain rfl:ts=#[T,T']:=by apply Array.ext'; simpa using hts
            exact aFC ho hx hy he h
           ·cases h
       ·cases h
      ·cases h
     ·cases h
    ·cases h
   ·rename_i f hf
    split at h
    ·rename_i fid caps hfn
     split at h
     ·rename_i vs hvs
      split at h
      ·rename_i hB
       intro F ρ a w s
       obtain ⟨d,op,ty,ps,af,g⟩:=o
       simp only at ho
       subst ho
       obtain ⟨callee,xs,ts⟩:=c
       simp only at hf hvs
       subst hf
       simp only [Bool.and_eq_true,ab0] at hB
       obtain ⟨⟨⟨b1,⟨⟨b2,b3⟩,b4⟩⟩,b5⟩,b6⟩:=hB
       have ef:=(aaI (ρ:=ρ) hfn).eval s.regs
       have exs:=(aru (ρ:=ρ) hvs).eval s.regs
       simp only [aav] at ef
       rw [aGx (fst:=#[]) (cap:=(aag ρ caps).toArray) ef b1 exs]
       have e:(#[]++(aag ρ vs).toArray++(aag ρ caps).toArray:Array Value)=(aag ρ (vs++caps)).toArray:=by rw [arx]; simp
       rw [e]
       show Calls P fid _ w _
       have hcm:=hc _ _ _ _ _ _ _ _ h (Nat.le_of_ble_eq_true b5) (Nat.le_of_ble_eq_true b3) (Nat.le_of_ble_eq_true b4) F ρ w s.cls
       rw [aeA b6] at hcm
       refine hcm.mono ?_
       rintro e w' ⟨x,⟨h1,h2,h3⟩,h4,h5⟩
       exact ⟨x,h4,⟨h1,h2,(abX h1 R (Nat.le_of_ble_eq_true b2)).symm,h3⟩,h5⟩
      ·cases h
     ·cases h
    ·cases h
   ·rename_i x name hf
    split at h
    ·rename_i i hmi
     split at h
     ·rename_i id hx
      split at h
      ·rename_i vs hvs
       split at h
       ·rename_i hB
        intro F ρ a w s
        obtain ⟨d,op,ty,ps,af,g⟩:=o
        simp only at ho
        subst ho
        obtain ⟨callee,xs,ts⟩:=c
        simp only at hf hvs
        subst hf
        simp only [Bool.and_eq_true,ab0] at hB
        obtain ⟨⟨⟨b2,b3⟩,b4⟩,b5⟩:=hB
        have ex:=(aaI (ρ:=ρ) hx).eval s.regs
        have exs:=(aru (ρ:=ρ) hvs).eval s.regs
        have hcm:=hc _ _ _ _ _ _ _ _ h (Nat.le_of_ble_eq_true b5) (Nat.le_of_ble_eq_true b3) (Nat.le_of_ble_eq_true b4) F ρ w s.cls
        rw [arF] at hcm
        obtain ⟨T,u,rest,f,e,hrun,hcall⟩:=hcm
        have e':aav ρ (.mc id)::aag ρ vs=.iface T u::rest.toList:=by
         have:=congrArg Array.toList e
         simpa [aag] using this
        simp only [List.cons.injEq] at e'
        obtain ⟨e1,e2⟩:=e'
        have e3:rest=(aag ρ vs).toArray:=by apply Array.ext'; rw [← e2]
        subst e3
        rw [e1] at ex
        rw [au7 ex exs (by rw [← aKO hmi]; exact hrun w)]
        show Calls P f _ w _
        refine hcall.mono ?_
        rintro e w' ⟨x,⟨h1,h2,h3⟩,h4,h5⟩
        exact ⟨x,h4,⟨h1,h2,(abX h1 R (Nat.le_of_ble_eq_true b2)).symm,h3⟩,h5⟩
       ·cases h
      ·cases h
     ·rename_i T u hx
      split at h
      ·rename_i f hml
       split at h
       ·rename_i vs hvs
        split at h
        ·rename_i hB
         intro F ρ a w s
         obtain ⟨d,op,ty,ps,af,g⟩:=o
         simp only at ho
         subst ho
         obtain ⟨callee,xs,ts⟩:=c
         simp only at hf hvs
         subst hf
         simp only [Bool.and_eq_true,ab0] at hB
         obtain ⟨⟨⟨b1,⟨⟨b2,b3⟩,b4⟩⟩,b5⟩,b6⟩:=hB
         have ex:=(aaI (ρ:=ρ) hx).eval s.regs
         have exs:=(aru (ρ:=ρ) hvs).eval s.regs
         simp only [aav] at ex
         rw [au7 ex exs (aDC hml b1 _ _ _)]
         have e:(#[aav ρ u]++(aag ρ vs).toArray:Array Value)=(aag ρ (u::vs)).toArray:=by simp [aag]
         rw [e]
         show Calls P f _ w _
         have hcm:=hc _ _ _ _ _ _ _ _ h (Nat.le_of_ble_eq_true b5) (Nat.le_of_ble_eq_true b3) (Nat.le_of_ble_eq_true b4) F ρ w s.cls
         rw [aeA b6] at hcm
         refine hcm.mono ?_
         rintro e w' ⟨x,⟨h1,h2,h3⟩,h4,h5⟩
         exact ⟨x,h4,⟨h1,h2,(abX h1 R (Nat.le_of_ble_eq_true b2)).symm,h3⟩,h5⟩
        ·cases h
       ·cases h
      ·cases h
     ·cases h
    ·cases h
   ·cases h
  ·cases h
end
inductive Gs where
 | yes
 | no
 | p (d:Nat) (c:Bool) (P:Prop) (dec:Decidable P)
 | b (d:Nat) (c:Bool) (x:Bool)
def aLo:Bool→Bool→Bool
 | true,true =>true
 | false,false =>true
 | _,_ =>false
theorem aw9 {x y:Bool}:(x == y)=aLo x y:=by cases x<;>cases y<;>rfl
def aKS:Value→Bool
 | .tuple cs =>Nat.beq cs.size 0
 | _ =>false
theorem aGV {v:Value} (h:aKS v=true):v=undef:=by
 unfold aKS at h
 split at h
 ·rename_i cs
  have:=Nat.eq_of_beq_eq_true h
  obtain rfl:=Array.eq_empty_of_size_eq_zero this
  rfl
 ·cases h
def gst (ops:Array Oper) (R:aa3):Option (Nat×Bool)→Option Gs
 | none =>some .yes
 | some (j,c) =>match ops[j]? with
  | some oj =>match oj.dst with
   | some d =>match get R d with
    | some (.t x) =>match aLo x c with
     | true =>some .yes
     | false =>some .no
    | some (.p P dec) =>some (.p d c P dec)
    | some (.b x) =>some (.b d c x)
    | some (.c v) =>match aKS v with
     | true =>some .no
     | false =>none
    | _ =>none
   | none =>none
  | none =>none
theorem aG3 {ops:Array Oper} {R:aa3} {ρ:Env} {g:Option (Nat×Bool)} (h:gst ops R g=some .yes):ak6 ops (dR ρ R) g true:=by
 unfold gst at h
 split at h
 ·exact ayI
 ·split at h
  ·rename_i hj
   split at h
   ·rename_i hd
    split at h
    ·rename_i x hg
     split at h
     ·rename_i hb
      exact anL hj hd (alU hg) (by rw [aw9]; exact hb)
     ·cases h
    ·cases h
    ·cases h
    ·split at h<;>cases h
    ·cases h
   ·cases h
  ·cases h
theorem aJt {ops:Array Oper} {R:aa3} {ρ:Env} {g:Option (Nat×Bool)} (h:gst ops R g=some .no):ak6 ops (dR ρ R) g false:=by
 unfold gst at h
 split at h
 ·cases h
 ·split at h
  ·rename_i hj
   split at h
   ·rename_i hd
    split at h
    ·rename_i x hg
     split at h
     ·cases h
     ·rename_i hb
      exact anL hj hd (alU hg) (by rw [aw9]; exact hb)
    ·cases h
    ·cases h
    ·rename_i hg
     split at h
     ·rename_i hu
      refine av8 hj hd ?_
      have:=alU (ρ:=ρ) hg
      simp only [aav] at this
      rw [aGV hu] at this
      exact this
     ·cases h
    ·cases h
   ·cases h
  ·cases h
def aCk (R:aa3) (d:Nat) (x:Bool):aa3:=(d,.t x)::del R d
theorem awd {ρ:Env} {R:aa3} {d nt:Nat} {v:V} {x:Bool} {a:Act} (hg:get R d=some v) (hv:aav ρ v=.bool x) (r:Regs nt a (dR ρ R)):Regs nt a (dR ρ (aCk R d x)) :=
 ⟨r.size,r.defers,fun p hp =>by
  obtain ⟨q,hq,rfl⟩:=List.mem_map.1 hp
  rcases List.mem_cons.1 hq with e | e
  ·subst e
   have:=r.has _ (alU (ρ:=ρ) hg)
   rw [hv] at this
   exact this
  ·exact r.has _ (List.mem_map.2 ⟨q,(ajt e).1,rfl⟩)⟩
theorem aKY {ops:Array Oper} {R:aa3} {g:Option (Nat×Bool)} {d:Nat} {c:Bool} {P:Prop} {dec:Decidable P} (h:gst ops R g=some (.p d c P dec)):get R d=some (.p P dec)∧∃ j oj,g=some (j,c)∧ops[j]?=some oj∧oj.dst=some d:=by
 unfold gst at h
 split at h
 ·cases h
 ·split at h
  ·rename_i hj
   split at h
   ·rename_i hd
    split at h
    ·split at h<;>cases h
    ·rename_i hg
     cases h
     exact ⟨hg,_,_,rfl,hj,hd⟩
    ·cases h
    ·split at h<;>cases h
    ·cases h
   ·cases h
  ·cases h
theorem aKZ {ops:Array Oper} {R:aa3} {g:Option (Nat×Bool)} {d:Nat} {c x:Bool} (h:gst ops R g=some (.b d c x)):get R d=some (.b x)∧∃ j oj,g=some (j,c)∧ops[j]?=some oj∧oj.dst=some d:=by
 unfold gst at h
 split at h
 ·cases h
 ·split at h
  ·rename_i hj
   split at h
   ·rename_i hd
    split at h
    ·split at h<;>cases h
    ·cases h
    ·rename_i hg
     cases h
     exact ⟨hg,_,_,rfl,hj,hd⟩
    ·split at h<;>cases h
    ·cases h
   ·cases h
  ·cases h
theorem agz {ops:Array Oper} {R:aa3} {ρ:Env} {j d:Nat} {c x:Bool} {oj:Oper} (hj:ops[j]?=some oj) (hd:oj.dst=some d):ak6 ops (dR ρ (aCk R d x)) (some (j,c)) (aLo x c) :=
 anL hj hd (List.mem_cons_self ..) aw9
def byG {α:Type} (ops:Array Oper) (R:aa3) (g:Option (Nat×Bool)) (yes no:aa3→Option α):Option α :=
 match gst ops R g with
 | some .yes =>yes R
 | some .no =>no R
 | some (.p d c P dec) =>match c with
  | true =>@ite _ P dec (yes (aCk R d true)) (no (aCk R d false))
  | false =>@ite _ P dec (no (aCk R d true)) (yes (aCk R d false))
 | some (.b d c x) =>match c with
  | true =>if x=true then yes (aCk R d true) else no (aCk R d false)
  | false =>if x=true then no (aCk R d true) else yes (aCk R d false)
 | none =>none
theorem aJX {α:Type} {ops:Array Oper} {R:aa3} {g:Option (Nat×Bool)} {yes no:aa3→Option α} {out:α} (h:byG ops R g yes no=some out) {ρ:Env} {nt:Nat} {a:Act} (r:Regs nt a (dR ρ R)) :
  ∃ R',Regs nt a (dR ρ R')∧((ak6 ops (dR ρ R') g true∧yes R'=some out)∨(ak6 ops (dR ρ R') g false∧no R'=some out)):=by
 unfold byG at h
 split at h
 ·rename_i hg; exact ⟨R,r,.inl ⟨aG3 hg,h⟩⟩
 ·rename_i hg; exact ⟨R,r,.inr ⟨aJt hg,h⟩⟩
 ·rename_i d c P dec hg
  obtain ⟨h1,j,oj,rfl,hj,hd⟩:=aKY hg
  by_cases hp:P
  ·have r':=awd (x:=true) h1 (by simp [aav,hp]) r
   refine ⟨_,r',?_⟩
   cases c with
   | true =>simp only [if_pos hp] at h; exact .inl ⟨agz hj hd,h⟩
   | false =>simp only [if_pos hp] at h; exact .inr ⟨agz hj hd,h⟩
  ·have r':=awd (x:=false) h1 (by simp [aav,hp]) r
   refine ⟨_,r',?_⟩
   cases c with
   | true =>simp only [if_neg hp] at h; exact .inr ⟨agz hj hd,h⟩
   | false =>simp only [if_neg hp] at h; exact .inl ⟨agz hj hd,h⟩
 ·rename_i d c x hg
  obtain ⟨h1,j,oj,rfl,hj,hd⟩:=aKZ hg
  have r':=awd (x:=x) h1 rfl r
  cases x<;>cases c<;>simp only [Bool.false_eq_true,if_false,if_true] at h
  ·exact ⟨_,r',.inl ⟨agz hj hd,h⟩⟩
  ·exact ⟨_,r',.inr ⟨agz hj hd,h⟩⟩
  ·exact ⟨_,r',.inr ⟨agz hj hd,h⟩⟩
  ·exact ⟨_,r',.inl ⟨agz hj hd,h⟩⟩
 ·cases h
def au9 (C:aa3):Option Tmp→Bool
 | none =>true
 | some d =>(get C d).isNone
theorem aBD {C:aa3} {d:Nat} (h:(get C d).isNone=true):del C d=C:=by
 induction C with
 | nil =>rfl
 | cons p C ih =>
  obtain ⟨t,v⟩:=p
  unfold get at h
  unfold del
  split
  ·rename_i e; simp [e] at h
  ·rename_i e; simp only [e] at h; rw [ih h]
theorem ayq {α:Type} {t d:Nat} {v:α} {R:List (Nat×α)}:del ((t,v)::R) d=match Nat.beq t d with | true =>del R d | false =>(t,v)::del R d:=rfl
theorem aBE {α:Type} {d:Nat}:∀ (R C:List (Nat×α)),del (R++C) d=del R d++del C d
 | [],_ =>rfl
 | (t,v)::R,C =>by
  rw [List.cons_append,ayq,ayq,aBE R C]
  cases Nat.beq t d<;>rfl
theorem agn {R C:aa3} {d:Option Tmp} {v:V} (h:au9 C d=true):as2 (R++C) d v=as2 R d v++C:=by
 cases d with
 | none =>rfl
 | some d =>simp only [as2,aBE,aBD h,List.cons_append]
theorem at0 {α:Type} {ops:Array Oper} {R C:aa3} {g:Option (Nat×Bool)} {yes no:aa3→Option α} {out:α} (h:byG ops R g yes no=some out) {ρ:Env} {nt:Nat} {a:Act} (r:Regs nt a (dR ρ (R++C))) :
  ∃ R',Regs nt a (dR ρ (R'++C))∧((ak6 ops (dR ρ (R'++C)) g true∧yes R'=some out)∨(ak6 ops (dR ρ (R'++C)) g false∧no R'=some out)):=by
 have rR:Regs nt a (dR ρ R):=r.sub fun p hp =>by unfold dR; rw [List.map_append]; exact List.mem_append_left _ hp
 have rC:Regs nt a (dR ρ C):=r.sub fun p hp =>by unfold dR; rw [List.map_append]; exact List.mem_append_right _ hp
 have up:∀ R':aa3,Regs nt a (dR ρ R')→Regs nt a (dR ρ (R'++C)):=fun R' h =>⟨h.size,h.defers,fun p hp =>by
  unfold dR at hp; rw [List.map_append] at hp
  exact (List.mem_append.1 hp).elim (h.has p) (rC.has p)⟩
 have upW:∀ (R':aa3) (b:Bool),ak6 ops (dR ρ R') g b→ak6 ops (dR ρ (R'++C)) g b:=fun R' b h =>by
  cases g with
  | none =>exact h
  | some q =>
   rcases h with ⟨o,d,x,h1,h2,h3,h4⟩ | ⟨hb,o,d,h1,h2,h3⟩
   ·exact .inl ⟨o,d,x,h1,h2,by unfold dR; rw [List.map_append]; exact List.mem_append_left _ h3,h4⟩
   ·exact .inr ⟨hb,o,d,h1,h2,by unfold dR; rw [List.map_append]; exact List.mem_append_left _ h3⟩
 obtain ⟨R',h1,h2⟩:=aJX h rR
 exact ⟨R',up R' h1,h2.imp (fun ⟨a,b⟩ =>⟨upW _ _ a,b⟩) (fun ⟨a,b⟩ =>⟨upW _ _ a,b⟩)⟩
def aoA (m j:Nat):Bool:=Nat.beq (Nat.land (Nat.shiftRight m j) 1) 1
theorem aiq (m j:Nat):aoA m j=m.testBit j:=by
 have e:aoA m j=decide (m / 2 ^ j % 2=1):=by
  show Nat.beq ((m >>> j) &&& 1) 1=_
  rw [Nat.and_one_is_mod,Nat.shiftRight_eq_div_pow]
  cases h:Nat.beq (m / 2 ^ j % 2) 1 with
  | true =>have:=Nat.eq_of_beq_eq_true h; simp [this]
  | false =>have:=Nat.ne_of_beq_eq_false h; simp [this]
 rw [e,Nat.testBit_eq_decide_div_mod_eq]
theorem aBZ (a b j:Nat):aoA (Nat.lor a b) j=(aoA a j || aoA b j):=by
 rw [aiq,aiq,aiq]; exact Nat.testBit_or ..
theorem at3 (i j:Nat):aoA (Nat.pow 2 i) j=decide (i=j):=by
 rw [aiq]; exact Nat.testBit_two_pow
theorem ayD (j:Nat):aoA 0 j=false:=by rw [aiq]; simp
theorem aDE {d m j:Nat} (h:Nat.land d m=d) (hd:aoA d j=true):aoA m j=true:=by
 rw [aiq] at hd ⊢
 have:=congrArg (fun x =>Nat.testBit x j) h
 have e:(d &&& m).testBit j=d.testBit j:=this
 rw [Nat.testBit_and,hd] at e
 simpa using e
theorem aGS {d m:Nat} (h:∀ j,aoA d j=true→aoA m j=true):Nat.land d m=d:=by
 refine Nat.eq_of_testBit_eq fun j =>?_
 have e:(Nat.land d m).testBit j=(d.testBit j && m.testBit j):=Nat.testBit_and ..
 rw [e]
 have:=h j
 rw [aiq,aiq] at this
 cases hd:d.testBit j with
 | false =>rfl
 | true =>rw [this hd]; rfl
theorem aGT {d m:Nat} (h:Nat.beq (Nat.land d m) 0=false):∃ j,aoA d j=true∧aoA m j=true:=by
 refine Classical.byContradiction fun hn =>?_
 have:Nat.land d m=0:=by
  refine Nat.eq_of_testBit_eq fun j =>?_
  have e:(Nat.land d m).testBit j=(d.testBit j && m.testBit j):=Nat.testBit_and ..
  rw [e]
  cases h1:d.testBit j with
  | false =>simp
  | true =>cases h2:m.testBit j with
   | false =>simp
   | true =>exact absurd ⟨j,by rw [aiq]; exact h1,by rw [aiq]; exact h2⟩ hn
 rw [this] at h; cases h
def aHR:List Edge→Nat
 | [] =>0
 | e::l =>match Region.binds .any e with
  | true =>Nat.lor (Nat.pow 2 e.on) (aHR l)
  | false =>aHR l
theorem ajE {j:Nat}:∀ {l:List Edge},aoA (aHR l) j=true↔∃ e∈l,Region.binds .any e=true∧e.on=j
 | [] =>by simp [aHR,ayD]
 | e::l =>by
  unfold aHR
  cases hb:Region.binds .any e with
  | true =>
   simp only [aBZ,at3,Bool.or_eq_true,decide_eq_true_eq,ajE (l:=l),List.mem_cons,exists_eq_or_imp,hb,true_and]
  | false =>
   simp only [ajE (l:=l),List.mem_cons,exists_eq_or_imp,hb,Bool.false_eq_true,false_and,false_or]
def aFe (o:Oper):Nat:=aHR o.after.toList
abbrev Pre:=List (Nat×Nat×Oper)
def aAl:List Oper→Nat→Pre
 | [],_ =>[]
 | o::l,i =>(i,aFe o,o)::aAl l (i+1)
def aAk {α:Type}:List Oper→Nat→(Pre→α)→α
 | [],_,k =>k []
 | o::l,i,k =>aeU (aFe o) fun d =>aeU (i+1) fun i' =>aAk l i' fun L =>k ((i,d,o)::L)
theorem axO {α:Type}:∀ (l:List Oper) (i:Nat) (k:Pre→α),aAk l i k=k (aAl l i)
 | [],_,_ =>rfl
 | o::l,i,k =>by unfold aAk aAl; rw [adG,adG,axO l]
theorem axP {i d:Nat} {o:Oper}:∀ {l:List Oper} {j:Nat},(i,d,o)∈aAl l j↔(j≤i∧l[i-j]?=some o∧d=aFe o)
 | [],j =>by simp [aAl]
 | o'::l,j =>by
  unfold aAl
  rw [List.mem_cons,axP (l:=l) (j:=j+1)]
  constructor
  ·rintro (h | ⟨h1,h2,h3⟩)
   ·cases h; simp
   ·refine ⟨by omega,?_,h3⟩
    have e:i-j=(i-(j+1))+1:=by omega
    rw [e,List.getElem?_cons_succ]; exact h2
  ·rintro ⟨h1,h2,h3⟩
   rcases Nat.eq_or_lt_of_le h1 with e | e
   ·subst e
    simp at h2
    subst h2
    exact .inl (by rw [h3])
   ·refine .inr ⟨by omega,?_,h3⟩
    have e2:i-j=(i-(j+1))+1:=by omega
    rw [e2,List.getElem?_cons_succ] at h2; exact h2
def aIz (m i d:Nat):Bool:=match aoA m i with
 | true =>false
 | false =>Nat.beq (Nat.land d m) d
def awU (f:Op→Bool) (m:Nat):Pre→Option (Nat×Oper)
 | [] =>none
 | (i,d,o)::L =>match aIz m i d with
  | true =>match f o.op with
   | true =>some (i,o)
   | false =>awU f m L
  | false =>awU f m L
def alP (m:Nat):Pre→List (Nat×Oper)
 | [] =>[]
 | (i,d,o)::L =>match aIz m i d with
  | true =>(i,o)::alP m L
  | false =>alP m L
def apA:Pre→Nat→Nat
 | [],acc =>acc
 | (i,d,_)::L,acc =>match Nat.beq (Nat.land d acc) 0 with
  | true =>apA L acc
  | false =>aeU (Nat.lor acc (Nat.pow 2 i)) fun a =>apA L a
def okM (ops:Array Oper) (L:Pre):Bool:=Region.noSelect ops && L.all fun x =>L.all fun y =>Nat.beq x.1 y.1 || (aoA y.2.1 x.1 || (aoA x.2.1 y.1 || x.2.2.apart ops y.2.2))
structure RelM (ops:Array Oper) (m:Nat) (listed:Array Bool):Prop where
 size:listed.size=ops.size
 bit:∀ j,listed.getD j false=aoA m j
section
variable {ops:Array Oper} {m:Nat} {listed:Array Bool} {L:Pre}
theorem RelM.bitT (h:RelM ops m listed) {j:Nat} (hj:j<ops.size):listed.getD j true=aoA m j:=by
 rw [← h.bit j]
 simp only [Array.getD,h.size,hj,dif_pos]
theorem RelM.none:RelM ops 0 (Array.replicate ops.size false):=⟨by simp,fun j =>by
 rw [ayD]
 simp only [Array.getD,Array.size_replicate]
 split<;>simp⟩
theorem RelM.set (h:RelM ops m listed) {i:Nat} (hi:i<ops.size):RelM ops (Nat.lor m (Nat.pow 2 i)) (listed.setIfInBounds i true):=⟨by simp [h.size],fun j =>by
 rw [aBZ,at3,← h.bit j]
 by_cases e:i=j
 ·subst e
  simp only [Array.getD,Array.size_setIfInBounds,h.size,hi,dif_pos]
  simp
 ·have e2:(listed.setIfInBounds i true).getD j false=listed.getD j false:=by
   simp only [Array.getD,Array.size_setIfInBounds]
   split
   ·rename_i hj
    exact Array.getElem_setIfInBounds_ne hj e
   ·rfl
  rw [e2]; simp [e]⟩
theorem an1 (h:RelM ops m listed) {i d:Nat} {o:Oper} (ho:ops[i]?=some o) (hd:d=aFe o):aIz m i d=true↔i∈Region.ready .any ops listed:=by
 have hi:i<ops.size:=(Array.getElem?_eq_some_iff.1 ho).1
 unfold Region.ready
 rw [List.mem_filter]
 simp only [List.mem_range,hi,true_and,h.bitT hi,ho,Option.map_some,Option.getD_some,Bool.and_eq_true,Bool.not_eq_true',Array.all_eq_true_iff_forall_mem]
 unfold aIz
 cases hb:aoA m i with
 | true =>simp
 | false =>
  simp only [true_and]
  constructor
  ·intro hq e he
   have hq':=Nat.eq_of_beq_eq_true hq
   cases hbe:Region.binds .any e with
   | false =>simp
   | true =>
    have:aoA d e.on=true:=by rw [hd]; exact ajE.2 ⟨e,by simpa using he,hbe,rfl⟩
    rw [h.bit,aDE hq' this]; simp
  ·intro hq
   rw [aGS fun j hj =>?_]
   ·exact Nat.beq_refl _
   ·rw [hd] at hj
    obtain ⟨e,he,hbe,hon⟩:=ajE.1 hj
    have:=hq e (by simpa using he)
    rw [hbe,hon,h.bit] at this
    simpa using this
theorem ahL (hL:L=aAl ops.toList 0) {i d:Nat} {o:Oper}:(i,d,o)∈L↔ops[i]?=some o∧d=aFe o:=by
 rw [hL,axP]; simp
theorem aiO (h:RelM ops m listed) {i:Nat} {o:Oper}:∀ {L:Pre},(∀ i d o,(i,d,o)∈L→ops[i]?=some o∧d=aFe o)→((i,o)∈alP m L↔(∃ d,(i,d,o)∈L)∧i∈Region.ready .any ops listed)
 | [],_ =>by simp [alP]
 | (i',d',o')::L,hL =>by
  have ih:=aiO h (i:=i) (o:=o) (L:=L) fun i d o hm =>hL i d o (List.mem_cons_of_mem _ hm)
  obtain ⟨h1,h2⟩:=hL i' d' o' (List.mem_cons_self ..)
  have hr:=an1 h h1 h2
  unfold alP
  cases hq:aIz m i' d' with
  | true =>
   simp only [List.mem_cons,ih,Prod.mk.injEq]
   constructor
   ·rintro (⟨rfl,rfl⟩ | ⟨⟨d,hd⟩,hx⟩)
    ·exact ⟨⟨d',.inl ⟨rfl,rfl,rfl⟩⟩,hr.1 hq⟩
    ·exact ⟨⟨d,.inr hd⟩,hx⟩
   ·rintro ⟨⟨d,⟨rfl,rfl,rfl⟩ | hd⟩,hx⟩
    ·exact .inl ⟨rfl,rfl⟩
    ·exact .inr ⟨⟨d,hd⟩,hx⟩
  | false =>
   simp only [List.mem_cons,ih,Prod.mk.injEq]
   constructor
   ·rintro ⟨⟨d,hd⟩,hx⟩; exact ⟨⟨d,.inr hd⟩,hx⟩
   ·rintro ⟨⟨d,⟨rfl,rfl,rfl⟩ | hd⟩,hx⟩
    ·rw [hr.2 hx] at hq; cases hq
    ·exact ⟨⟨d,hd⟩,hx⟩
theorem aDu (hL:L=aAl ops.toList 0) (hok:okM ops L=true) (h:RelM ops m listed) {i:Nat} (hm:i∈Region.ready .any ops listed):awa ops listed i=true:=by
 unfold okM at hok
 simp only [Bool.and_eq_true] at hok
 unfold awa
 simp only [Bool.and_eq_true]
 refine ⟨⟨hok.1,?_⟩,by simpa using hm⟩
 have hi:=List.mem_range.1 (List.mem_filter.1 hm).1
 unfold Region.free
 cases ho:ops[i]? with
 | none =>rw [Array.getElem?_eq_none_iff] at ho; omega
 | some oi =>
  simp only
  have h2:=List.all_eq_true.1 hok.2 (i,aFe oi,oi) ((ahL hL).2 ⟨ho,rfl⟩)
  refine List.all_eq_true.2 fun j hj =>?_
  cases hl:listed.getD j true with
  | true =>simp
  | false =>
   cases hoj:ops[j]? with
   | none =>simp
   | some oj =>
    have h3:=List.all_eq_true.1 h2 (j,aFe oj,oj) ((ahL hL).2 ⟨hoj,rfl⟩)
    simp only [Bool.or_eq_true] at h3 ⊢
    rcases h3 with h3 | h3 | h3 | h3
    ·exact .inl (.inl (by rw [Nat.eq_of_beq_eq_true h3]; simp))
    ·refine .inr (.inl ?_)
     obtain ⟨e,he,hb,hon⟩:=ajE.1 h3
     exact Array.any_eq_true'.2 ⟨e,by simpa using he,by simp [hb,hon]⟩
    ·exfalso
     obtain ⟨e,he,hb,hon⟩:=ajE.1 h3
     have hr:=(an1 h ho rfl).2 hm
     have h4:=(List.mem_filter.1 hm).2
     simp only [ho,Option.map_some,Option.getD_some,Bool.and_eq_true,Array.all_eq_true_iff_forall_mem] at h4
     have h5:=h4.2 e (by simpa using he)
     rw [hb,hon] at h5
     have hj':j<ops.size:=(Array.getElem?_eq_some_iff.1 hoj).1
     rw [h.bitT hj',← h.bit j] at hl
     rw [hl] at h5; simp at h5
    ·exact .inr (.inr h3)
theorem ass (hL:L=aAl ops.toList 0) (hok:okM ops L=true) (h:RelM ops m listed) {f:Op→Bool} {i:Nat} {o:Oper} (hf:awU f m L=some (i,o)):ops[i]?=some o∧awa ops listed i=true∧i∈Region.ready .any ops listed:=by
 have key:∀ M:Pre,(∀ x∈M,x∈L)→awU f m M=some (i,o)→ops[i]?=some o∧i∈Region.ready .any ops listed:=fun M =>by
  induction M with
  | nil =>intro _ h; cases h
  | cons x M ih =>
   intro hM hq
   obtain ⟨i',d',o'⟩:=x
   unfold awU at hq
   have ih':=ih fun x hx =>hM x (List.mem_cons_of_mem _ hx)
   split at hq
   ·rename_i hr
    split at hq
    ·cases hq
     obtain ⟨h1,h2⟩:=(ahL hL).1 (hM _ (List.mem_cons_self ..))
     exact ⟨h1,(an1 h h1 h2).1 hr⟩
    ·exact ih' hq
   ·exact ih' hq
 obtain ⟨h1,h2⟩:=key L (fun _ h =>h) hf
 exact ⟨h1,aDu hL hok h h2,h2⟩
theorem atT (hL:L=aAl ops.toList 0) {i0:Nat}:∀ {M:Pre} {acc:Nat},(∀ x∈M,x∈L)→(∀ k,aoA acc k=true→Desc ops i0 k)→∀ k,aoA (apA M acc) k=true→Desc ops i0 k
 | [],_,_,h,k,hk =>h k hk
 | (i,d,o)::M,acc,hM,h,k,hk =>by
  have hM':∀ x∈M,x∈L:=fun x hx =>hM x (List.mem_cons_of_mem _ hx)
  unfold apA at hk
  split at hk
  ·exact atT hL hM' h k hk
  ·rename_i hb
   rw [adG] at hk
   refine atT hL hM' (fun k hk =>?_) k hk
   rw [aBZ,at3,Bool.or_eq_true] at hk
   rcases hk with hk | hk
   ·exact h k hk
   ·have e:i=k:=by simpa using hk
    subst e
    obtain ⟨j,hj1,hj2⟩:=aGT hb
    obtain ⟨h1,h2⟩:=(ahL hL).1 (hM _ (List.mem_cons_self ..))
    rw [h2] at hj1
    obtain ⟨e,he,hbe,hon⟩:=ajE.1 hj1
    exact .step h1 (by simpa using he) hbe (by rw [hon]; exact h j hj2)
end
section
variable (K:KT) (P:Program) (call:amm K) {α:Type} (ops:Array Oper) (nt:Nat)
def rtE (C:aa3) (Z:KT.H K):List Oper→aa3→Nat→KT.H K→(aa3→Nat→KT.H K→Option α)→Option α
 | [],R,n,H,k =>k R n H
 | o::l,R,n,H,k =>match aGg nt o.dst && au9 C o.dst with
  | true =>byG ops R o.guard (fun R =>stp K P call o (R++C) n Z H fun n' H' v =>rtE C Z l (as2 R o.dst v) n' H' k) (fun R =>rtE C Z l (as2 R o.dst (.c undef)) n H k)
  | false =>none
def aIB:Op→Bool
 | .move _ =>true
 | .assign _ =>true
 | .nilCheck _ =>true
 | .pick .. =>true
 | .binOp .. =>true
 | .unOp .. =>true
 | .convert .. =>true
 | .extract .. =>true
 | .fieldAddr .. =>true
 | .makeFunc .. =>true
 | .indexAddr .. =>true
 | .makeInterface .. =>true
 | .build .. =>true
 | .slice .. =>true
 | .field .. =>true
 | .call c =>match c.callee with
  | .builtin .len =>true
  | .builtin .min =>true
  | .builtin .max =>true
  | _ =>false
 | _ =>false
def aJg:Op→Bool
 | .load .. =>true
 | _ =>false
def aKM {ι:Type}:List ι→Option ι
 | [i] =>some i
 | _ =>none
def aDt (R:aa3) (n:Nat) (Z H:KT.H K):V→Option (Nat×KT.H K)
 | .ptr id _ =>match get H id with
  | some (.cells fs) =>match ab0 K R n Z H with
   | true =>match aIJ K fs.length n H id 0 with
    | some (_,H',_) =>some (n+fs.length,H')
    | none =>none
   | false =>none
  | _ =>none
 | _ =>none
def aGy (R:aa3) (n:Nat) (Z H:KT.H K) (u:V):Option (Nat×KT.H K):=match aDt K R n Z H u with
 | some r =>some r
 | none =>match aAD K H u with
  | some H1 =>aDt K R n Z H1 u
  | none =>none
structure Rd where
 L:Nat
 D:Nat
 T:TypeId
 u:V
 v:V
def aKl:V→V→Option (List Gd)
 | .i k x,w =>match w with
  | .i k' y =>match asS k k' with
   | true =>some [⟨x=y,inferInstance⟩]
   | false =>none
  | _ =>none
 | .l k x,w =>match w with
  | .l k' y =>match asS k k' with
   | true =>some [⟨x=y,inferInstance⟩]
   | false =>none
  | _ =>none
 | .b x,w =>match w with
  | .b y =>some [⟨x=y,inferInstance⟩]
  | _ =>none
 | .sl a,w =>match w with
  | .sl b =>match Nat.beq a b with
   | true =>some []
   | false =>none
  | _ =>none
 | .ptr a o,w =>match w with
  | .ptr b q =>match Nat.beq a b && Nat.beq o q with
   | true =>some []
   | false =>none
  | _ =>none
 | .mc a,w =>match w with
  | .mc b =>match Nat.beq a b with
   | true =>some []
   | false =>none
  | _ =>none
 | .c (.slice none 0 0),w =>match w with
  | .c (.slice none 0 0) =>some []
  | _ =>none
 | .ifc t (.ptr a o),w =>match w with
  | .ifc t' (.ptr b q) =>match Nat.beq t t' && (Nat.beq a b && Nat.beq o q) with
   | true =>some []
   | false =>none
  | _ =>none
 | _,_ =>none
def aKk:List V→List V→Option (List Gd)
 | [],[] =>some []
 | v::l,w::m =>match aKl v w with
  | some g =>match aKk l m with
   | some gs =>some (g++gs)
   | none =>none
  | none =>none
 | _,_ =>none
def eqG:V→V→Option (List Gd)
 | .agg l,w =>match w with
  | .agg m =>aKk l m
  | _ =>none
 | v,w =>aKl v w
theorem aBu {v w:V} {gs:List Gd} (h:aKl v w=some gs) (hg:∀ g∈gs,g.P) (ρ:Env):aav ρ v=aav ρ w:=by
 unfold aKl at h
 split at h
 ·split at h
  ·split at h
   ·rename_i e; cases h; rw [ah5 e]; simp only [aav]; congr 1; exact hg _ (List.mem_singleton.2 rfl)
   ·cases h
  ·cases h
 ·split at h
  ·split at h
   ·rename_i e; cases h; rw [ah5 e]; simp only [aav]; congr 1; exact hg _ (List.mem_singleton.2 rfl)
   ·cases h
  ·cases h
 ·split at h
  ·cases h; simp only [aav]; congr 1; exact hg _ (List.mem_singleton.2 rfl)
  ·cases h
 ·split at h
  ·split at h
   ·rename_i e; rw [Nat.eq_of_beq_eq_true e]
   ·cases h
  ·cases h
 ·split at h
  ·split at h
   ·rename_i e
    simp only [Bool.and_eq_true] at e
    rw [Nat.eq_of_beq_eq_true e.1,Nat.eq_of_beq_eq_true e.2]
   ·cases h
  ·cases h
 ·split at h
  ·split at h
   ·rename_i e; rw [Nat.eq_of_beq_eq_true e]
   ·cases h
  ·cases h
 ·split at h
  ·cases h; rfl
  ·cases h
 ·split at h
  ·split at h
   ·rename_i e
    simp only [Bool.and_eq_true] at e
    rw [Nat.eq_of_beq_eq_true e.1,Nat.eq_of_beq_eq_true e.2.1,Nat.eq_of_beq_eq_true e.2.2]
   ·cases h
  ·cases h
 ·cases h
theorem aBt:∀ {l m:List V} {gs:List Gd},aKk l m=some gs→(∀ g∈gs,g.P)→∀ ρ:Env,aag ρ l=aag ρ m
 | [],[],_,_,_,_ =>rfl
 | v::l,w::m,gs,h,hg,ρ =>by
  unfold aKk at h
  split at h
  ·rename_i g h1
   split at h
   ·rename_i gs' h2
    cases h
    simp only [aag]
    rw [aBu h1 (fun g hg' =>hg g (List.mem_append_left _ hg')) ρ,aBt h2 (fun g hg' =>hg g (List.mem_append_right _ hg')) ρ]
   ·cases h
  ·cases h
 | [],_::_,_,h,_,_ =>by cases h
 | _::_,[],_,h,_,_ =>by cases h
theorem aJL {v w:V} {gs:List Gd} (h:eqG v w=some gs) (hg:∀ g∈gs,g.P) (ρ:Env):aav ρ v=aav ρ w:=by
 unfold eqG at h
 split at h
 ·split at h
  ·simp only [aav,aBt h hg ρ]
  ·cases h
 ·exact aBu h hg ρ
def awk (i:Nat) (H:KT.H K):List Rd→Option (List Gd)
 | [] =>some []
 | e::S =>match aoA e.D i with
  | true =>awk i H S
  | false =>match ldV K P H e.T e.u with
   | some v =>match eqG e.v v with
    | some g =>match awk i H S with
     | some gs =>some (g++gs)
     | none =>none
    | none =>none
   | none =>none
def aJC (o:Option (List Gd)) (k:Option α):Option α:=match o with
 | some gs =>gds gs k
 | none =>none
open Classical in
noncomputable def agr {α:Type} (x y:Option α):Option α:=if x=y then x else none
theorem aEo {α:Type} {x y:Option α} {o:α} (h:agr x y=some o):x=some o∧y=some o:=by
 unfold agr at h
 split at h
 ·rename_i e; exact ⟨h,e▸h⟩
 ·cases h
theorem ajG {α:Type} (x:Option α):agr x x=x:=if_pos rfl
noncomputable def aD6 {α ι:Type} (g:ι→Option α):List ι→Option α
 | [] =>none
 | i::l =>match l with
  | [] =>g i
  | _::_ =>agr (g i) (aD6 g l)
theorem ast {α ι:Type} {g:ι→Option α} {o:α}:∀ {l:List ι},aD6 g l=some o→∀ i∈l,g i=some o
 | [],h,_,_ =>by cases h
 | [j],h,i,hi =>by obtain rfl:=List.mem_singleton.1 hi; exact h
 | j::k::l,h,i,hi =>by
  obtain ⟨h1,h2⟩:=aEo (show agr (g j) (aD6 g (k::l))=some o from h)
  rcases List.mem_cons.1 hi with e | e
  ·subst e; exact h1
  ·exact ast h2 i e
noncomputable def atE (C:aa3) (Z:KT.H K) (L:Pre):Nat→Nat→List Rd→aa3→Nat→KT.H K→(aa3→Nat→KT.H K→Option α)→Option α
 | 0,m,_,R,n,H,k =>match alP m L with
  | [] =>k R n H
  | _::_ =>none
 | f+1,m,S,R,n,H,k =>match awU aIB m L with
  | some (i,o) =>match aGg nt o.dst && au9 C o.dst && ax8 o with
    | true =>byG ops R o.guard (fun R =>match evX K P (R++C) n Z H o.op with
     | some (gs,n',H',v) =>gds gs (aeU (Nat.lor m (Nat.pow 2 i)) fun m' =>atE C Z L f m' S (as2 R o.dst v) n' H' k)
     | none =>match o.op with
      | .indexAddr T x y =>match aHQ P (R++C) T x y with
       | some (q,(len,j,sz),kk) =>avs j (fun q' =>match au9 C o.dst with
        | true =>aeU (Nat.lor m (Nat.pow 2 i)) fun m' =>atE C Z L f m' S (as2 (aJ9 R y kk q') o.dst (.ptr q.1 (q.2+q'*sz))) n H k
        | false =>none) len
       | none =>match aHP K P (R++C) (H++Z) T x y with
        | some (q,(len,j,sz),kk) =>avs j (fun q' =>match au9 C o.dst with
         | true =>aeU (Nat.lor m (Nat.pow 2 i)) fun m' =>atE C Z L f m' S (as2 (aJ9 R y kk q') o.dst (.ptr q.1 (q.2+q'*sz))) n H k
         | false =>none) len
        | none =>none
      | _ =>none) (fun R =>aeU (Nat.lor m (Nat.pow 2 i)) fun m' =>atE C Z L f m' S (as2 R o.dst (.c undef)) n H k)
    | false =>none
  | none =>match awU aJg m L with
   | some (i,o) =>match aGg nt o.dst && au9 C o.dst && ax8 o && Nat.ble (agi Z) n with
     | true =>byG ops R o.guard (fun R =>match o.op with
      | .load T x =>match evO (R++C) x with
       | some u =>match aGy K (R++C) n Z H u with
        | some (n1,H1) =>match ldV K P (H1++Z) T u with
         | some v =>match Nat.ble (akc u) n1 && Nat.ble (akc v) n1 with
          | true =>aeU (apA L (Nat.pow 2 i)) fun D =>aeU (Nat.lor m (Nat.pow 2 i)) fun m' =>atE C Z L f m' (⟨i,D,T,u,v⟩::S) (as2 R o.dst v) n1 H1 k
          | false =>none
         | none =>none
        | none =>match ldV K P (H++Z) T u with
         | some v =>match Nat.ble (akc u) n && Nat.ble (akc v) n with
          | true =>aeU (apA L (Nat.pow 2 i)) fun D =>aeU (Nat.lor m (Nat.pow 2 i)) fun m' =>atE C Z L f m' (⟨i,D,T,u,v⟩::S) (as2 R o.dst v) n H k
          | false =>none
         | none =>match aKM (alP m L) with
          | some _ =>stp K P call o (R++C) n Z H fun n' H' v =>aJC (awk K P i (H'++Z) S) (aeU (Nat.lor m (Nat.pow 2 i)) fun m' =>atE C Z L f m' S (as2 R o.dst v) n' H' k)
          | none =>none
       | none =>none
      | _ =>none) (fun R =>aeU (Nat.lor m (Nat.pow 2 i)) fun m' =>atE C Z L f m' S (as2 R o.dst (.c undef)) n H k)
     | false =>none
   | none =>aD6 (fun x =>match aGg nt x.2.dst && au9 C x.2.dst && Nat.ble (agi Z) n with
      | true =>byG ops R x.2.guard (fun R =>stp K P call x.2 (R++C) n Z H fun n' H' v =>aJC (awk K P x.1 (H'++Z) S) (aeU (Nat.lor m (Nat.pow 2 x.1)) fun m' =>atE C Z L f m' S (as2 R x.2.dst v) n' H' k)) (fun R =>aeU (Nat.lor m (Nat.pow 2 x.1)) fun m' =>atE C Z L f m' S (as2 R x.2.dst (.c undef)) n H k)
      | false =>none) (alP m L)
end
section
variable {K:KT} {P:Program} {call:amm K} {α:Type} {ops:Array Oper} {nt n B:Nat} {W:World} {R C:aa3} {Z H:KT.H K} {Q:Exit→Act→World→Prop} {F:aad} {out:α} {ρ:Env}
def KOk (K:KT) (Q:Exit→Act→World→Prop) (nt B:Nat) (W:World) (C:aa3) (Z:KT.H K) (F:aad) (out:α) (e:Exit) (ρ:Env) (n:Nat) (k:aa3→Nat→KT.H K→Option α):Prop :=
 ∀ ρ' R' n' H',aaA n ρ ρ'→n≤n'→k R' n' H'=some out→ET Q nt B W e (dR ρ' (R'++C)) (dS K ρ' Z H' F)
theorem KOk.from {e:Exit} {ρ':Env} {n':Nat} {k:aa3→Nat→KT.H K→Option α} (h:KOk K Q nt B W C Z F out e ρ n k) (ha:aaA n ρ ρ') (hn:n≤n'):KOk K Q nt B W C Z F out e ρ' n' k :=
 fun ρ'' R' n'' H' ha' hn' hk =>h ρ'' R' n'' H' (ha.trans ha' hn) (by omega) hk
theorem azV {r:Option Nat} (hc:alX K P B W call):∀ {l:List Oper} {ρ:Env} {R:aa3} {n:Nat} {H:KT.H K} {k:aa3→Nat→KT.H K→Option α},rtE K P call ops nt C Z l R n H k=some out→KOk K Q nt B W C Z F out .normal ρ n k →
  RT r P ops Q nt B W l (dR ρ (R++C)) (dS K ρ Z H F)
 | [],ρ,R,n,H,k,h,hk =>aIs (hk ρ R n H (aaA.refl _ _) (Nat.le_refl _) h)
 | o::l,ρ,R,n,H,k,h,hk =>fun a w s =>by
  unfold rtE at h
  split at h
  ·rename_i hd
   simp only [Bool.and_eq_true] at hd
   obtain ⟨R',r',h1 | h1⟩:=at0 h s.regs
   ·exact aF1 (aEz hc h1.2) hd.1 h1.1 (fun ρ' n' H' v ha hn hx =>by rw [agn hd.2]; exact azV hc hx (hk.from ha hn)) a w ⟨r',s.below,s.lo,s.sat⟩
   ·have h3:=azV (r:=r) hc h1.2 hk
    rw [← agn hd.2] at h3
    have:=aF2 (r:=r) (P:=P) (Q:=Q) h1.1 (agm (ρ:=ρ) (v:=.c undef) hd.1) h3
    exact this a w ⟨r',s.below,s.lo,s.sat⟩
  ·cases h
theorem aAK {ι:Type} {l:List ι} {i:ι} (h:aKM l=some i):l=[i]:=by
 unfold aKM at h; split at h
 ·cases h; rfl
 ·cases h
theorem ax7 {R:aa3} {n n1:Nat} {Z H H1:KT.H K} {u:V} (h:aDt K R n Z H u=some (n1,H1)) {a:Act} {w:World} (s:Sta nt B W (dR ρ R) (dS K ρ Z H F) a w) :
  n≤n1∧agi Z≤n∧∃ ρ',aaA n ρ ρ'∧Sta nt B W (dR ρ' R) (dS K ρ' Z H1 F) a w:=by
 unfold aDt at h
 split at h
 ·rename_i id o
  split at h
  ·rename_i fs hg
   split at h
   ·rename_i hB
    simp only [Bool.and_eq_true,ab0] at hB
    obtain ⟨⟨b1,b2⟩,b3⟩:=hB
    have b2':=Nat.le_of_ble_eq_true b2
    split at h
    ·rename_i ch H' l hop
     cases h
     obtain ⟨ρ',⟨ha,_⟩,hs,_⟩:=ati (X:=fun ρ =>tl K Z F ρ) (fun _ ρ ρ' ha =>ada b2' ha) hop s.sat
     exact ⟨Nat.le_add_right ..,b2',ρ',ha,by rw [← abX ha R (Nat.le_of_ble_eq_true b1)]; exact s.regs,s.below,s.lo,hs⟩
    ·cases h
   ·cases h
  ·cases h
 ·cases h
theorem aDs {R:aa3} {n n1:Nat} {Z H H1:KT.H K} {u:V} (h:aGy K R n Z H u=some (n1,H1)) {a:Act} {w:World} (s:Sta nt B W (dR ρ R) (dS K ρ Z H F) a w) :
  n≤n1∧agi Z≤n∧∃ ρ',aaA n ρ ρ'∧Sta nt B W (dR ρ' R) (dS K ρ' Z H1 F) a w:=by
 unfold aGy at h
 split at h
 ·rename_i h1; cases h; exact ax7 h1 s
 ·split at h
  ·rename_i hop; exact ax7 h ⟨s.regs,s.below,s.lo,atj hop s.sat⟩
  ·cases h
def ajU (P:Program) (ρ:Env) (e:Rd) (w:World):Prop:=(Instr.loadAt e.T (aav ρ e.u)).run P w=.ok (aav ρ e.v) w
theorem aEV {H:KT.H K} {T:TypeId} {u v:V} (h:ldV K P H T u=some v) {w:World} {X:List aad} (s:Sat B w (dH K ρ H++X)):(Instr.loadAt T (aav ρ u)).run P w=.ok (aav ρ v) w:=by
 unfold ldV at h
 split at h
 ·rename_i id o'
  split at h
  ·rename_i hT
   exact akD hT (axK h s)
  ·rename_i k hT
   simp only [Option.map_eq_some_iff] at h
   obtain ⟨l,hl,rfl⟩:=h
   obtain ⟨h1,h2⟩:=axJ hl s
   exact alm hT (by rw [aaT]; simpa using h1) h2 rfl
  ·cases h
 ·cases h
theorem asZ {i:Nat} {H:KT.H K}:∀ {S:List Rd} {gs:List Gd},awk K P i H S=some gs→(∀ g∈gs,g.P)→(∀ e∈S,∀ j,aoA e.D j=true→Desc ops e.L j)→∀ {w:World} {X:List aad},Sat B w (dH K ρ H++X)→∀ e∈S,¬ Desc ops e.L i→ajU P ρ e w
 | [],_,_,_,_,_,_,_,e,he,_ =>by cases he
 | e0::S,gs,h,hg,hD,w,X,s,e,he,hd =>by
  have hD':∀ e∈S,∀ j,aoA e.D j=true→Desc ops e.L j:=fun e he =>hD e (List.mem_cons_of_mem _ he)
  unfold awk at h
  split at h
  ·rename_i hin
   rcases List.mem_cons.1 he with e1 | e1
   ·subst e1
    exact absurd (hD e (List.mem_cons_self ..) i hin) hd
   ·exact asZ h hg hD' s e e1 hd
  ·split at h
   ·rename_i v hv
    split at h
    ·rename_i g hgq
     split at h
     ·rename_i gs' hr
      cases h
      rcases List.mem_cons.1 he with e1 | e1
      ·subst e1
       unfold ajU
       rw [aJL hgq (fun g hg' =>hg g (List.mem_append_left _ hg')) ρ]
       exact aEV hv s
      ·exact asZ hr (fun g hg' =>hg g (List.mem_append_right _ hg')) hD' s e e1 hd
     ·cases h
    ·cases h
   ·cases h
theorem aG5 {α:Type} {o:Option (List Gd)} {k:Option α} {out:α} (h:aJC o k=some out):∃ gs,o=some gs∧(∀ g∈gs,g.P)∧k=some out:=by
 unfold aJC at h
 split at h
 ·rename_i gs; exact ⟨gs,rfl,ano h⟩
 ·cases h
theorem anF {L:Pre} (hL:L=aAl ops.toList 0) (hok:okM ops L=true) (hc:alX K P B W call):∀ {f m:Nat} {listed:Array Bool} {S:List Rd} {ρ:Env} {R:aa3} {n:Nat} {H:KT.H K} {k:aa3→Nat→KT.H K→Option α} {Ob:Nat→World→World→Prop},RelM ops m listed→ak9 ops listed→(∀ e∈S,∀ j,aoA e.D j=true→Desc ops e.L j)→atE K P call ops nt C Z L f m S R n H k=some out→KOk K Q nt B W C Z F out .normal ρ n k →
  (∀ j w,Ob j w w)→(∀ e∈S,akc e.u≤n∧akc e.v≤n)→(∀ j w w',(∀ e∈S,¬ Desc ops e.L j→ajU P ρ e w')→Ob j w w')→∀ a w,Sta nt B W (dR ρ (R++C)) (dS K ρ Z H F) a w→aiu P ops Q Ob f listed a w
 | 0,m,listed,S,ρ,R,n,H,k,Ob,hrel,hcl,hD,h,hk,hrf,hS,hΦ,a,w,s =>by
  unfold atE at h
  split at h
  ·rename_i hr
   refine ⟨?_,hk ρ R n _ (aaA.refl _ _) (Nat.le_refl _) h a w s⟩
   refine List.eq_nil_iff_forall_not_mem.2 fun i hi =>?_
   have hlt:=List.mem_range.1 (List.mem_filter.1 hi).1
   have:=(aiO hrel (i:=i) (o:=ops[i]) (L:=L) fun i d o hm =>(ahL hL).1 hm).2 ⟨⟨_,(ahL hL).2 ⟨Array.getElem?_eq_getElem hlt,rfl⟩⟩,hi⟩
   rw [hr] at this; cases this
  ·cases h
 | f+1,m,listed,S,ρ,R,n,H,k,Ob,hrel,hcl,hD,h,hk,hrf,hS,hΦ,a,w,s =>by
  have move:∀ {ρ':Env} {n':Nat},aaA n ρ ρ'→n≤n'→(∀ e∈S,akc e.u≤n'∧akc e.v≤n')∧(∀ e∈S,∀ w,ajU P ρ e w↔ajU P ρ' e w):=fun ha hn =>⟨fun e he =>⟨Nat.le_trans (hS e he).1 hn,Nat.le_trans (hS e he).2 hn⟩,fun e he w =>by
   unfold ajU; rw [abh ha _ (hS e he).1,abh ha _ (hS e he).2]⟩
  have hΦ':∀ {ρ':Env} {n':Nat},aaA n ρ ρ'→n≤n'→(∀ j w w',(∀ e∈S,¬ Desc ops e.L j→ajU P ρ' e w')→Ob j w w'):=fun ha hn j w w' h =>hΦ j w w' fun e he hd =>((move ha hn).2 e he w').2 (h e he hd)
  have hlt:∀ {i:Nat},i∈Region.ready .any ops listed→i<ops.size:=fun hi =>List.mem_range.1 (List.mem_filter.1 hi).1
  have op1:∀ {i:Nat} {o:Oper} {R':aa3},ops[i]?=some o→i∈Region.ready .any ops listed→aGg nt o.dst=true→au9 C o.dst=true→agi Z≤n→ak6 ops (dR ρ (R'++C)) o.guard true→Regs nt a (dR ρ (R'++C)) →
    (stp K P call o (R'++C) n Z H fun n' H' v =>aJC (awk K P i (H'++Z) S) (aeU (Nat.lor m (Nat.pow 2 i)) fun m' =>atE K P call ops nt C Z L f m' S (as2 R' o.dst v) n' H' k))=some out →
    wpOpIn (rf none) 0 P ops (NP Q) i (fun a' w' =>Ob i w w'∧aiu P ops Q Ob f (listed.setIfInBounds i true) a' w') a w:=by
   intro i o R' ho him hp hni hZ h0 r' h1
   unfold wpOpIn
   simp only [ho]
   rw [if_pos (h0.spec r')]
   refine aum (aEz hc h1 F ρ a w ⟨r',s.below,s.lo,s.sat⟩) fun x w' ⟨⟨ha,hn,hR,hx⟩,hw'⟩ =>?_
   obtain ⟨gs,hrc,hgs,hx⟩:=aG5 hx
   rw [adG] at hx
   have r2:Regs nt a (dR x.ρ (R'++C)):=hR▸r'
   refine ⟨hΦ' ha hn i w w' (asZ hrc hgs hD (aeq hw'.2.2)),?_⟩
   exact anF hL hok hc (hrel.set (hlt him)) (hcl.set him) hD hx (hk.from ha hn) hrf (move ha hn).1 (hΦ' ha hn) _ _ (hw'.st (agn hni▸agm hp a r2))
  unfold atE at h
  split at h
  ·rename_i i o hi
   obtain ⟨ho,hB,him⟩:=ass hL hok hrel hi
   have hcl':=hcl.set him
   have hrel':=hrel.set (hlt him)
   split at h
   ·rename_i hd
    simp only [Bool.and_eq_true] at hd
    obtain ⟨R',r',h1 | h1⟩:=at0 h s.regs
    ·obtain ⟨h0,h1⟩:=h1
     split at h1
     ·rename_i gs n' H' v he
      obtain ⟨hg,h2⟩:=ano h1
      rw [adG] at h2
      obtain ⟨ρ',⟨q1,q2,q3⟩,qz,q4,q5⟩:=aFa he hg s.sat r'
      refine ak5 ho (hrf i) hB hcl ⟨.inl ⟨h0.spec r',fun w _ =>q5 w⟩,fun w =>ahv hd.2 w _⟩ ?_
      have r2:Regs nt a (dR ρ' (R'++C)):=q3▸r'
      exact anF hL hok hc hrel' hcl' hD h2 (hk.from q1 q2) hrf (move q1 q2).1 (hΦ' q1 q2) _ _ ⟨agn hd.1.2▸agm hd.1.1 a r2,s.below,s.lo,q4 w s.sat⟩
     ·split at h1
      ·rename_i T x y hop
       split at h1
       ·rename_i q len j sz kk hfk
        obtain ⟨q',hm,hj,h2⟩:=als h1
        rw [hd.1.2] at h2
        simp only [adG] at h2
        obtain ⟨u,hu,hden⟩:=aD1 (ρ:=ρ) hfk
        rw [hj] at hden
        have r2:=aAd hu hden r'
        obtain ⟨id,o'⟩:=q
        have hrun:∀ w',(execOp a.eval o).run P w'=.ok (.value (aav ρ (.ptr id (o'+q'*sz)))) w':=fun w' =>by
         obtain ⟨d,op,ty,ps,af,g⟩:=o
         simp only at hop
         subst hop
         exact aBq hfk r' hm hj w'
        refine ak5 ho (hrf i) hB hcl ⟨.inl ⟨h0.spec r',fun w _ =>hrun w⟩,fun w =>ahv hd.2 w _⟩ ?_
        exact anF hL hok hc hrel' hcl' hD h2 hk hrf hS hΦ _ _ ⟨agn hd.1.2▸agm hd.1.1 a r2,s.below,s.lo,s.sat⟩
       ·split at h1
        ·rename_i q len j sz kk hfk
         obtain ⟨q',hm,hj,h2⟩:=als h1
         rw [hd.1.2] at h2
         simp only [adG] at h2
         obtain ⟨u,hu,hden⟩:=aD0 (ρ:=ρ) hfk
         rw [hj] at hden
         have r2:=aAd hu hden r'
         obtain ⟨id,o'⟩:=q
         have hrun:∀ w',(execOp a.eval o).run P w'=.ok (.value (aav ρ (.ptr id (o'+q'*sz)))) w':=fun w' =>by
          obtain ⟨d,op,ty,ps,af,g⟩:=o
          simp only at hop
          subst hop
          exact aBp hfk (aeq s.sat) r' hm hj w'
         refine ak5 ho (hrf i) hB hcl ⟨.inl ⟨h0.spec r',fun w _ =>hrun w⟩,fun w =>ahv hd.2 w _⟩ ?_
         exact anF hL hok hc hrel' hcl' hD h2 hk hrf hS hΦ _ _ ⟨agn hd.1.2▸agm hd.1.1 a r2,s.below,s.lo,s.sat⟩
        ·cases h1
      ·cases h1
    ·obtain ⟨h0,h1⟩:=h1
     rw [adG] at h1
     refine ak5 ho (hrf i) hB hcl ⟨.inr ⟨h0.spec r',rfl⟩,fun w =>ahv hd.2 w _⟩ ?_
     exact anF hL hok hc hrel' hcl' hD h1 hk hrf hS hΦ _ _ ⟨agn hd.1.2▸agm (ρ:=ρ) (v:=.c undef) hd.1.1 a r',s.below,s.lo,s.sat⟩
   ·cases h
  ·split at h
   ·rename_i i o hi
    obtain ⟨ho,hB,him⟩:=ass hL hok hrel hi
    have hcl':=hcl.set him
    have hrel':=hrel.set (hlt him)
    split at h
    ·rename_i hd
     simp only [Bool.and_eq_true] at hd
     obtain ⟨R',r',h1 | h1⟩:=at0 h s.regs
     ·obtain ⟨h0,h1⟩:=h1
      split at h1
      ·rename_i T x hop
       split at h1
       ·rename_i u hx
        have key:∀ {ρ:Env} {n:Nat} {H:KT.H K} {v:V},KOk K Q nt B W C Z F out .normal ρ n k→(∀ e∈S,akc e.u≤n∧akc e.v≤n)→(∀ j w w',(∀ e∈S,¬ Desc ops e.L j→ajU P ρ e w')→Ob j w w')→Sta nt B W (dR ρ (R'++C)) (dS K ρ Z H F) a w→ldV K P (H++Z) T u=some v→(match Nat.ble (akc u) n && Nat.ble (akc v) n with
          | true =>aeU (apA L (Nat.pow 2 i)) fun D =>aeU (Nat.lor m (Nat.pow 2 i)) fun m' =>atE K P call ops nt C Z L f m' (⟨i,D,T,u,v⟩::S) (as2 R' o.dst v) n H k
          | false =>none)=some out→aiu P ops Q Ob (f+1) listed a w:=by
         intro ρ n H v hk hS hΦ s hv h1
         split at h1
         ·rename_i htop
          simp only [adG] at h1
          simp only [Bool.and_eq_true] at htop
          have ht1:=Nat.le_of_ble_eq_true htop.1
          have ht2:=Nat.le_of_ble_eq_true htop.2
          have hH:ajU P ρ ⟨i,apA L (Nat.pow 2 i),T,u,v⟩ w:=aEV hv (aeq s.sat)
          refine avP (Ob:=fun j w w' =>Ob j w w'∧(¬ Desc ops i j→ajU P ρ ⟨i,apA L (Nat.pow 2 i),T,u,v⟩ w→ajU P ρ ⟨i,apA L (Nat.pow 2 i),T,u,v⟩ w')) (fun _ _ _ h =>h.1) _ _ _ _ ?_
          refine aB7 (Φ:=ajU P ρ ⟨i,apA L (Nat.pow 2 i),T,u,v⟩) (v:=aav ρ v) ho (fun w =>⟨hrf i w,fun _ h =>h⟩) hB hcl (fun j w w' h =>h.2) ⟨.inl ⟨h0.spec r',fun w' hs =>?_⟩,fun w =>ahv hd.1.2 w _⟩ hH ?_
          ·have ex:=(aaI (ρ:=ρ) hx).eval s.regs
           obtain ⟨d,op,ty,ps,af,g⟩:=o
           simp only at hop
           subst hop
           simp only [execOp,ex]
           rw [aaa hs]; rfl
          ·refine anF hL hok hc hrel' hcl' (fun e he =>?_) h1 hk (fun j w =>⟨hrf j w,fun _ h =>h⟩) (fun e he =>?_) (fun j w w' hs =>⟨hΦ j w w' fun e he =>hs e (List.mem_cons_of_mem _ he),fun hn _ =>hs ⟨i,apA L (Nat.pow 2 i),T,u,v⟩ (List.mem_cons_self ..) hn⟩) _ _ ⟨agn hd.1.1.2▸agm hd.1.1.1 a s.regs,s.below,s.lo,s.sat⟩
           ·rcases List.mem_cons.1 he with e1 | e1
            ·subst e1
             exact atT hL (fun _ h =>h) fun k hk =>by
              rw [at3] at hk
              have:i=k:=by simpa using hk
              subst this
              exact .self
            ·exact hD e e1
           ·rcases List.mem_cons.1 he with e1 | e1
            ·subst e1; exact ⟨ht1,ht2⟩
            ·exact hS e e1
         ·cases h1
        split at h1
        ·rename_i n1 H1 hop2
         obtain ⟨hn,hZ,ρ',ha,s'⟩:=aDs hop2 (a:=a) (w:=w) ⟨r',s.below,s.lo,s.sat⟩
         split at h1
         ·rename_i v hv
          exact key (hk.from ha hn) (move ha hn).1 (hΦ' ha hn) s' hv h1
         ·cases h1
        ·split at h1
         ·rename_i v hv
          exact key hk hS hΦ ⟨r',s.below,s.lo,s.sat⟩ hv h1
         ·split at h1
          ·rename_i i2 hi2
           have hr:=aAK hi2
           have hone:∀ j,j∈Region.ready .any ops listed→j=i2.1:=fun j hj =>by
            have:=(aiO hrel (i:=j) (o:=ops[j]'(hlt hj)) (L:=L) fun i d o hm =>(ahL hL).1 hm).2 ⟨⟨_,(ahL hL).2 ⟨Array.getElem?_eq_getElem (hlt hj),rfl⟩⟩,hj⟩
            rw [hr] at this
            have:=List.mem_singleton.1 this
            exact congrArg Prod.fst this
           refine ⟨fun h0 =>(by rw [h0] at him; cases him),fun j hj =>?_⟩
           have e1:=hone j hj
           have e2:=hone i him
           obtain rfl:j=i:=e1.trans e2.symm
           exact op1 ho hj hd.1.1.1 hd.1.1.2 (Nat.le_of_ble_eq_true hd.2) h0 r' h1
          ·cases h1
       ·cases h1
      ·cases h1
     ·obtain ⟨h0,h1⟩:=h1
      rw [adG] at h1
      refine ak5 ho (hrf i) hB hcl ⟨.inr ⟨h0.spec r',rfl⟩,fun w =>ahv hd.1.2 w _⟩ ?_
      exact anF hL hok hc hrel' hcl' hD h1 hk hrf hS hΦ _ _ ⟨agn hd.1.1.2▸agm (ρ:=ρ) (v:=.c undef) hd.1.1.1 a r',s.below,s.lo,s.sat⟩
    ·cases h
   ·have hmem:∀ {i:Nat} (hi:i∈Region.ready .any ops listed),(i,ops[i]'(hlt hi))∈alP m L:=fun {i} hi =>
     (aiO hrel (i:=i) (o:=ops[i]'(hlt hi)) (L:=L) fun i d o hm =>(ahL hL).1 hm).2 ⟨⟨_,(ahL hL).2 ⟨Array.getElem?_eq_getElem (hlt hi),rfl⟩⟩,hi⟩
    refine ⟨fun h0 =>?_,fun i hi =>?_⟩
    ·have e:alP m L=[]:=by
      refine List.eq_nil_iff_forall_not_mem.2 fun x hx =>?_
      have:=((aiO hrel (i:=x.1) (o:=x.2) (L:=L) fun i d o hm =>(ahL hL).1 hm).1 hx).2
      rw [h0] at this; cases this
     rw [e] at h; cases h
    ·have h1:=ast h _ (hmem hi)
     have ho:ops[i]?=some (ops[i]'(hlt hi)):=Array.getElem?_eq_getElem (hlt hi)
     split at h1
     ·rename_i hd
      simp only [Bool.and_eq_true] at hd
      obtain ⟨R',r',h2 | h2⟩:=at0 h1 s.regs
      ·exact op1 ho hi hd.1.1 hd.1.2 (Nat.le_of_ble_eq_true hd.2) h2.1 r' h2.2
      ·unfold wpOpIn
       simp only [ho]
       rw [if_neg (by rw [h2.1.spec r']; exact Bool.false_ne_true)]
       have h3:=h2.2
       rw [adG] at h3
       exact ⟨fun _ _ =>trivial,hrf i w,anF hL hok hc (hrel.set (hlt hi)) (hcl.set hi) hD h3 hk hrf hS hΦ _ _ ⟨agn hd.1.2▸agm (ρ:=ρ) (v:=.c undef) hd.1.1 a r',s.below,s.lo,s.sat⟩⟩
     ·cases h1
end
end
end Go.Proofs.YteapeojalliebaaGreat
