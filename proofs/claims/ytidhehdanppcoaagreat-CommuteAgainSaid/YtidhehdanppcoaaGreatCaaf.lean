/- Evaluation by itself,8: operations,regions. No program occurs here. Evaluation by itself,9: regions,code,calls by their bodies. No program occurs here. -/
import Derived.Test.YtidhehdanppcoaaGreatCaad
import Derived.Test.YtidhehdanppcoaaGreatCaae
set_option linter.all false
namespace Go.Proofs.YtidhehdanppcoaaGreat
section
open Go Go.RowKit
section
variable (K:KT)
def rd1 (H:KT.H K) (id o:Nat):Option V:=match opn K 0 H id o with
 | some (false,_,v) =>some v
 | _ =>none
def rdN (H:KT.H K) (id:Nat):Nat→Nat→Option (List V)
 | 0,_ =>some []
 | k+1,o =>match rd1 K H id o with
  | some v =>match rdN H id k (o+1) with
   | some l =>some (v::l)
   | none =>none
  | none =>none
def ldV (P:Program) (H:KT.H K) (T:TypeId) (x:V):Option V :=
 match x with
 | .ptr id o =>match ae1 P T with
  | some none =>rd1 K H id o
  | some (some k) =>(rdN K H id k o).map .agg
  | none =>none
 | _ =>none
end
section
variable {K:KT} {P:Program} {B:Nat}
theorem awu {H:KT.H K} {id o:Nat} {v:V} (h:rd1 K H id o=some v) {ρ:Env} {w:World} {X:List aad} (s:Sat B w (dH K ρ H++X)):w.cell? ⟨(ρ.p id).1,(ρ.p id).2+o,none⟩=some (aau ρ v):=by
 unfold rd1 at h
 split at h
 ·rename_i h1
  cases h
  obtain ⟨ρ',⟨_,he⟩,_,hc⟩:=atH (X:=fun _ =>X) h1 (fun e =>by cases e) s
  obtain rfl:=he rfl
  exact hc
 ·cases h
theorem awt {H:KT.H K} {id:Nat}:∀ {k o:Nat} {l:List V},rdN K H id k o=some l→∀ {ρ:Env} {w:World} {X:List aad},Sat B w (dH K ρ H++X)→l.length=k∧∀ j v,(aag ρ l)[j]?=some v→w.cell? ⟨(ρ.p id).1,(ρ.p id).2+o+j,none⟩=some v
 | 0,o,l,h,ρ,w,X,s =>by cases h; exact ⟨rfl,fun j v hj =>by simp [aag] at hj⟩
 | k+1,o,l,h,ρ,w,X,s =>by
  unfold rdN at h
  split at h
  ·rename_i v h1
   split at h
   ·rename_i l' h2
    cases h
    obtain ⟨hl,hc⟩:=awt h2 s
    refine ⟨by simp [hl],fun j u hj =>?_⟩
    cases j with
    | zero =>
     simp only [aag,List.getElem?_cons_zero,Option.some.injEq] at hj
     rw [← hj]; exact awu h1 s
    | succ j =>
     simp only [aag,List.getElem?_cons_succ] at hj
     rw [← hc j u hj]; congr 2; omega
   ·cases h
  ·cases h
theorem aFT {o:Oper} {H:KT.H K} {T:TypeId} {x:Operand} {u v:V} {R:aaZ} {nt:Nat} (ho:o.op=.load T x) (hx:evO R x=some u) (h:ldV K P H T u=some v) {ρ:Env} {a:Act} {w:World} {X:List aad} (r:Regs nt a (dR ρ R)) (s:Sat B w (dH K ρ H++X)) :
  (execOp a.eval o).run P w=.ok (.value (aau ρ v)) w:=by
 obtain ⟨d,op,ty,ps,af,g⟩:=o
 simp only at ho
 subst ho
 have ex:=(aaH (ρ:=ρ) hx).eval r
 unfold ldV at h
 split at h
 ·rename_i id o'
  have fin:(Instr.loadAt T (.pointer (some ⟨(ρ.p id).1,(ρ.p id).2+o',none⟩))).run P w=.ok (aau ρ v) w→(execOp a.eval ⟨d,.load T x,ty,ps,af,g⟩).run P w=.ok (.value (aau ρ v)) w:=fun h6 =>by
   simp only [execOp,ex,aau]
   rw [aaa h6]; rfl
  split at h
  ·rename_i hT
   exact fin (ajs hT (awu h s))
  ·rename_i k hT
   simp only [Option.map_eq_some_iff] at h
   obtain ⟨l,hl,rfl⟩:=h
   obtain ⟨h1,h2⟩:=awt hl s
   exact fin (aj0 hT (by rw [aaR]; simpa using h1) h2 rfl)
  ·cases h
 ·cases h
end
section
variable (K:KT)
def aGg (P:Program) (R:aaZ) (n:Nat) (Z H:KT.H K) (T:TypeId) (x:V):Option (Nat×KT.H K×V) :=
 match x with
 | .ptr id o =>match ae1 P T with
  | some none =>match get (H++Z) id with
   | some (.elt j i sz) =>match get (H++Z) j with
    | some (.rr c xss) =>match Nat.beq sz 1 && Nat.beq o 0 && (Nat.ble (afl (H++Z)) n && Nat.ble (av8 R) n) with
     | true =>some (n+1,(n,.ro c (atL [] xss i))::H,.sl n)
     | false =>none
    | _ =>none
   | _ =>none
  | _ =>none
 | _ =>none
end
section
variable {K:KT} {P:Program} {nt n B:Nat} {W:World} {R:aaZ} {Z H:KT.H K} {nx:Nat→KT.H K→V→Prop}
theorem apY {ρ:Env} (H H':KT.H K):dH K ρ (H++H')=dH K ρ H++dH K ρ H':=by simp [dH]
theorem aE5 {ρ:Env} {j c:Nat} {xss:List (List (K.T c))} (hg:get H j=some (.rr c xss)) {X:List aad}:Ent (dH K ρ H++X) (acg K ρ j (.rr c xss)::(dH K ρ H++X)):=fun h0 t0 =>by
 obtain ⟨j1,j2,a1,e1,⟨m1,ps,m2⟩,mL⟩:=aaO (ρ:=ρ) hg h0 t0
 obtain ⟨p,hp,hΦ⟩:=m2
 have hpp:∀ b o x,p b o=some x→(∃ v,x=.look v)∧h0 b o=some x:=fun b o x hx =>⟨(hp b o x hx).1,by rw [e1]; unfold ac7; rw [(hp b o x hx).2]⟩
 refine ⟨p,h0,fun b o =>?_,?_,⟨m1,ps,p,fun b o x hx =>⟨(hpp b o x hx).1,hx⟩,hΦ⟩,t0⟩
 ·cases hpb:p b o with
  | none =>exact .inl rfl
  | some x =>
   obtain ⟨⟨v,rfl⟩,h2⟩:=hpp b o x hpb
   exact .inr (.inr ⟨v,rfl,h2⟩)
 ·funext b o
  unfold ac7
  cases hpb:p b o with
  | none =>rfl
  | some x =>exact (hpp b o x hpb).2
theorem axH {o:Oper} {T:TypeId} {x:Operand} {u v:V} {n':Nat} {H':KT.H K} (ho:o.op=.load T x) (hx:evO R x=some u) (h:aGg K P R n Z H T u=some (n',H',v)) (hn:nx n' H' v):aeo K P nt B W o R n Z H nx:=fun F ρ a w s =>by
 obtain ⟨d,op,ty,ps,af,g⟩:=o
 simp only at ho
 subst ho
 have ex:=(aaH (ρ:=ρ) hx).eval s.regs
 unfold aGg at h
 split at h
 ·rename_i id o'
  split at h
  ·rename_i hT
   split at h
   ·rename_i j i sz hgi
    split at h
    ·rename_i c xss hgj
     split at h
     ·rename_i hB
      cases h
      simp only [Bool.and_eq_true] at hB
      obtain ⟨⟨b1,b2⟩,b3,b4⟩:=hB
      have hn1:afl (H++Z)≤n:=Nat.le_of_ble_eq_true b3
      have hji:=aic hgi
      have hjn:j<n:=Nat.lt_of_lt_of_le (aic hgj).1 hn1
      have hin:id<n:=Nat.lt_of_lt_of_le hji.1 hn1
      have s0:Sat B w (dH K ρ (H++Z)++[F]):=by rw [apY,List.append_assoc]; exact s.sat
      have he:=at7 s0 hgi
      have s1:=s0.imp (aE5 (ρ:=ρ) hgj)
      have s2:Sat B w (dH K ρ [(id,.elt j i sz),(j,.rr c xss)]++(dH K ρ (H++Z)++[F])):=abj s1 fun k =>he
      have hne:Nat.beq id j=false:=by
       cases hq:Nat.beq id j with
       | false =>rfl
       | true =>
        have:=Nat.eq_of_beq_eq_true hq
        subst this
        rw [hgi] at hgj; cases hgj
      have hop:opn K n [(id,.elt j i sz),(j,.rr c xss)] id o'=some (true,(n,.ro c (atL [] xss i))::(j,.rr c xss)::del [(id,.elt j i sz),(j,.rr c xss)] j,.sl n):=by
       have g1:get [(id,(Ch.elt j i sz:Ch K.T K.M)),(j,.rr c xss)] id=some (.elt j i sz):=by unfold get; rw [Nat.beq_refl]
       have g2:get [(id,(Ch.elt j i sz:Ch K.T K.M)),(j,.rr c xss)] j=some (.rr c xss):=by unfold get; rw [hne]; simp only [get]; rw [Nat.beq_refl]
       have g3:Nat.ble (afl [(id,(Ch.elt j i sz:Ch K.T K.M)),(j,.rr c xss)]) n=true:=by
        refine Nat.ble_eq_true_of_le ?_
        refine aqn ⟨aqn ⟨hin,?_⟩,aqn ⟨aqn ⟨hjn,Nat.zero_le _⟩,Nat.zero_le _⟩⟩
        exact hjn
       unfold opn
       simp only [g1,g2,b1,b2,g3,Bool.and_self]
      obtain ⟨ρ',⟨ha,_⟩,s3,hc⟩:=atH (X:=fun ρ =>dH K ρ (H++Z)++[F]) hop (fun _ ρ' ha =>by rw [ab3 ha _ hn1]) s2
      have s4:Sat B w (dS K ρ' Z ((n,.ro c (atL [] xss i))::H) F):=by
       have e:dS K ρ' Z ((n,.ro c (atL [] xss i))::H) F=acg K ρ' n (.ro c (atL [] xss i))::(dH K ρ' (H++Z)++[F]):=by
        rw [apY,List.append_assoc]; rfl
       rw [e]
       refine s3.imp fun k hk =>?_
       exact abu (fun q hq =>agE (L:=dH K ρ' ((j,.rr c xss)::del [(id,.elt j i sz),(j,.rr c xss)] j)) hq) hk
      have:(execOp a.eval ⟨d,.load T x,ty,ps,af,g⟩).run P w=.ok (.value (aau ρ' (.sl n))) w:=by
       simp only [execOp,ex,aau]
       rw [aaa (ajs hT hc)]; rfl
      rw [this]
      exact ⟨⟨ρ',n+1,(n,.ro c (atL [] xss i))::H,.sl n⟩,rfl,⟨ha,Nat.le_succ _,(abU ha _ (Nat.le_of_ble_eq_true b4)).symm,hn⟩,s.below,s.lo,s4⟩
     ·cases h
    ·cases h
   ·cases h
  ·cases h
 ·cases h
end
def agk:Nat:=1000000000
def mI (name : String) : Option Nat := if name = "Step" then some 0 else if name = "Result" then some 1 else if name = "Copy" then some 2 else none
def mN:Nat→String
 | 0 =>"Step"
 | 1 =>"Result"
 | _ =>"Copy"
theorem aJW {name:String} {i:Nat} (h:mI name=some i):mN i=name:=by
 unfold mI at h
 split at h
 ·cases h; rename_i e; exact e.symm
 ·split at h
  ·cases h; rename_i e; exact e.symm
  ·split at h
   ·cases h; rename_i e; exact e.symm
   ·cases h
def aga (P:Program) (fid:FuncId) (args:Array Value) (w:World) (Q:Ending→World→Prop):Prop :=
 match Nat.blt fid agk with
 | true =>Calls P fid args w Q
 | false =>∃ (T:TypeId) (u:Value) (rest:Array Value) (f:FuncId),args=#[.iface T u]++rest∧(∀ w',(callMethod (.iface T u) (mN (fid-agk)) rest).run P w'=.ok (.enter f (#[u]++rest)) w')∧Calls P f (#[u]++rest) w Q
theorem aem {P:Program} {fid:FuncId} {args:Array Value} {w:World} {Q:Ending→World→Prop} (h:Nat.blt fid agk=true):aga P fid args w Q=Calls P fid args w Q:=by
 unfold aga; rw [h]
theorem ap7 {P:Program} {i:Nat} {args:Array Value} {w:World} {Q:Ending→World→Prop}:aga P (agk+i) args w Q=∃ (T:TypeId) (u:Value) (rest:Array Value) (f:FuncId),args=#[.iface T u]++rest∧(∀ w',(callMethod (.iface T u) (mN i) rest).run P w'=.ok (.enter f (#[u]++rest)) w')∧Calls P f (#[u]++rest) w Q:=by
 have h:Nat.blt (agk+i) agk=false:=by
  cases hb:Nat.blt (agk+i) agk with
  | false =>rfl
  | true =>have:=Nat.le_of_ble_eq_true hb; omega
 unfold aga
 rw [h,show agk+i-agk=i by omega]
theorem aga.mono {P:Program} {fid:FuncId} {args:Array Value} {w:World} {Q Q':Ending→World→Prop} (h:aga P fid args w Q) (hq:∀ e w',Q e w'→Q' e w'):aga P fid args w Q':=by
 unfold aga at h ⊢
 split at h
 ·exact Calls.mono h hq
 ·obtain ⟨T,u,rest,f,e,h1,h2⟩:=h
  exact ⟨T,u,rest,f,e,h1,Calls.mono h2 hq⟩
def aFM (P:Program) (T:TypeId) (name:String):Option FuncId :=
 match P.info? T with
 | some ti =>match ti.methods.find? (fun m =>m.name == name) with
  | some m =>match m.path.toList with
   | [] =>match m.func with
    | some (f,true) =>match P.underlying T with
     | some (.pointer _) =>some f
     | _ =>none
    | _ =>none
   | _ =>none
  | none =>none
 | none =>none
theorem aCz {P:Program} {T:TypeId} {name:String} {f:FuncId} (h:aFM P T name=some f) (hc:ax7 P f=true) (u:Value) (vs:Array Value) (w:World) :
  (callMethod (.iface T u) name vs).run P w=.ok (.enter f (#[u]++vs)) w:=by
 unfold aFM at h
 split at h
 ·rename_i ti hti
  split at h
  ·rename_i m hm
   split at h
   ·rename_i hp
    split at h
    ·rename_i g hg
     split at h
     ·rename_i el hu
      cases h
      have h1:(typeInfo T).run P w=.ok ti w:=by
       unfold typeInfo
       rw [aaa (a:=P) (w':=w) rfl,hti]; rfl
      have h2:(underlying T).run P w=.ok (.pointer el) w:=by
       unfold underlying
       rw [aaa (a:=P) (w':=w) rfl,hu]; rfl
      have h3:∀ s,(receiverAt T (.val u) true s).run P w=.ok u w:=fun s =>by
       unfold receiverAt
       rw [aaa h2]; rfl
      have h4:∀ k,(method (k+1) T u name).run P w=.ok (f,u) w:=fun k =>by
       unfold method
       rw [aaa h1]
       simp only [hm,hp]
       rw [aaa (a:=(T,Place.val u)) (w':=w) rfl]
       simp only [hg]
       rw [aaa (h3 _)]; rfl
      unfold callMethod
      rw [aaa (a:=P) (w':=w) rfl]
      rw [show P.types.size+Made.depth=(P.types.size+Made.depth-1)+1 from (Nat.succ_pred_eq_of_pos (Nat.lt_of_lt_of_le (by decide) (Nat.le_add_left _ _))).symm]
      rw [aaa (h4 _)]
      exact axu hc _
     ·cases h
    ·cases h
   ·cases h
  ·cases h
 ·cases h
theorem atK {P:Program} {a:Act} {w:World} {x:Operand} {name:String} {f:FuncId} {xs:Array Operand} {ts:Array TypeId} {vs:List Value} {T:TypeId} {u:Value} {d:Option Tmp} {ty:TypeId} {ps:String} {af:Array Edge} {g:Option (Nat×Bool)} (hx:a.eval x=.iface T u) (hxs:xs.toList.map a.eval=vs) (hc:(callMethod (.iface T u) name vs.toArray).run P w=.ok (.enter f (#[u]++vs.toArray)) w) :
  (execOp a.eval ⟨d,.call ⟨.invoke x name,xs,ts⟩,ty,ps,af,g⟩).run P w=.ok (.enter f (#[u]++vs.toArray)) w:=by
 have e:xs.map a.eval=vs.toArray:=by apply Array.ext'; rw [Array.toList_map,hxs]
 simp only [execOp,resolve,e,hx]
 rw [aaa (a:=({ target:=.fn (.method name) #[],args:=#[.iface T u]++vs.toArray }:Deferred)) (w':=w) rfl]
 simp only [invoke]
 have e0:(#[Value.iface T u]++vs.toArray)[0]?=some (.iface T u):=by simp
 have e1:(#[Value.iface T u]++vs.toArray).extract 1 (#[Value.iface T u]++vs.toArray).size=vs.toArray:=by apply Array.ext'; simp
 rw [e0,e1]
 exact hc
def asb {α:Type} (j:Int) (f:Nat→Option α):Nat→Option α
 | 0 =>none
 | m+1 =>if j=((m:Nat):Int) then f m else asb j f m
theorem ais {α:Type} {j:Int} {f:Nat→Option α} {out:α}:∀ {m:Nat},asb j f m=some out→∃ i,i<m∧j=((i:Nat):Int)∧f i=some out
 | 0,h =>by cases h
 | m+1,h =>by
  unfold asb at h
  split at h
  ·rename_i e; exact ⟨m,Nat.lt_succ_self m,e,h⟩
  ·obtain ⟨i,h1,h2⟩:=ais h
   exact ⟨i,Nat.lt_succ_of_lt h1,h2⟩
def aD9 (P:Program) (R:aaZ) (T:TypeId) (x y:Operand):Option ((Nat×Nat)×(Nat×Int×Nat)×IntKind) :=
 match evO R x with
 | some (.ptr id o) =>match P.underlying T with
  | some (.array len elem) =>match evO R y with
   | some u =>match aj3 u with
    | some (k,j,_) =>match P.info? elem with
     | some inf =>some ((id,o),(len,j,inf.size),k)
     | none =>none
    | none =>none
   | none =>none
  | _ =>none
 | _ =>none
theorem avC {P:Program} {ρ:Env} {R:aaZ} {T:TypeId} {x y:Operand} {id o len sz:Nat} {j:Int} {kk:IntKind} (h:aD9 P R T x y=some ((id,o),(len,j,sz),kk)) {nt:Nat} {a:Act} (r:Regs nt a (dR ρ R)) {i:Nat} (hi:i<len) (hj:j=((i:Nat):Int))
  {d:Option Tmp} {ty:TypeId} {ps:String} {af:Array Edge} {g:Option (Nat×Bool)} (w:World):(execOp a.eval ⟨d,.indexAddr T x y,ty,ps,af,g⟩).run P w=.ok (.value (aau ρ (.ptr id (o+i*sz)))) w:=by
 unfold aD9 at h
 split at h
 ·rename_i id' o' hx
  have ex:=(aaH (ρ:=ρ) hx).eval r
  split at h
  ·rename_i len' elem hu
   split at h
   ·rename_i u hy
    split at h
    ·rename_i k j' l hi'
     have ey:=(ab9 (ρ:=ρ) hy hi').eval r
     split at h
     ·rename_i inf hinf
      cases h
      subst hj
      have h1:(0:Int)≤((i:Nat):Int)∧((i:Nat):Int)<(len:Int):=by omega
      have h2:(Instr.indexAt T (.pointer (some ⟨(ρ.p id).1,(ρ.p id).2+o,none⟩)) (.int kk ((i:Nat):Int))).run P w=.ok (.pointer (some ⟨(ρ.p id).1,(ρ.p id).2+(o+i*inf.size),none⟩)) w:=by
       simp [Instr.indexAt,asIntOf,aco hu,sizeOf,acq hinf,h1,hi,Instr.sureAddr,adA,Nat.add_assoc]
      simp only [execOp,ex,ey,aau]
      rw [aaa h2]; rfl
     ·cases h
    ·cases h
   ·cases h
  ·cases h
 ·cases h
def aKe (P:Program) (R:aaZ) (T:TypeId) (x y:Operand):Option ((Nat×Nat)×(Nat×Int×Nat)×Int) :=
 match evO R x with
 | some (.vs id o k c) =>match agn P T with
  | some sz =>match evO R y with
   | some u =>match aj3 u with
    | some (_,j,_) =>some ((id,o),(c,j,sz),k)
    | none =>none
   | none =>none
  | none =>none
 | _ =>none
theorem aGh {P:Program} {ρ:Env} {R:aaZ} {T:TypeId} {x y:Operand} {id o len sz:Nat} {j kb:Int} (h:aKe P R T x y=some ((id,o),(len,j,sz),kb)) (hb:j<kb) {nt:Nat} {a:Act} (r:Regs nt a (dR ρ R)) {i:Nat} (hj:j=((i:Nat):Int))
  {d:Option Tmp} {ty:TypeId} {ps:String} {af:Array Edge} {g:Option (Nat×Bool)} (w:World):(execOp a.eval ⟨d,.indexAddr T x y,ty,ps,af,g⟩).run P w=.ok (.value (aau ρ (.ptr id (o+i*sz)))) w:=by
 unfold aKe at h
 split at h
 ·rename_i id' o' k' c' hx
  have ex:=aaH (ρ:=ρ) hx
  split at h
  ·rename_i sz' hsz
   split at h
   ·rename_i u hy
    split at h
    ·rename_i kk j' l hi
     have ey:=ab9 (ρ:=ρ) hy hi
     cases h
     subst hj
     have:=(aif (P:=P) (n:=nt) (d:=d) (ty:=ty) (ps:=ps) (af:=af) (g:=g) (i:=i) (o':=(ρ.p id).2+(o+i*sz)) ex ey rfl (by omega) hsz (by omega)) a w r
     simpa only [aau] using this
    ·cases h
   ·cases h
  ·cases h
 ·cases h
def aHw (R:aaZ) (y:Operand) (k:IntKind) (i:Nat):aaZ:=match y with
 | .tmp t =>match get R t with
  | some (.i _ _) =>(t,.l k ((i:Nat):Int))::del R t
  | _ =>R
 | _ =>R
theorem ar5 {α:Type} {t:Nat} {v:α} {C:List (Nat×α)}:∀ {R:List (Nat×α)},get R t=some v→get (R++C) t=some v
 | [],h =>by cases h
 | (t',v')::R,h =>by
  rw [List.cons_append]
  unfold get at h ⊢
  cases hb:Nat.beq t' t with
  | true =>rw [hb] at h; exact h
  | false =>rw [hb] at h; exact ar5 h
theorem axe {P:Program} {ρ:Env} {R:aaZ} {T:TypeId} {x y:Operand} {q:Nat×Nat} {len sz:Nat} {j:Int} {kk:IntKind} (h:aD9 P R T x y=some (q,(len,j,sz),kk)):∃ u,evO R y=some u∧aau ρ u=.int kk j:=by
 unfold aD9 at h
 split at h
 ·split at h
  ·split at h
   ·rename_i u hy
    split at h
    ·rename_i hi
     split at h
     ·cases h; exact ⟨u,hy,afq hi⟩
     ·cases h
    ·cases h
   ·cases h
  ·cases h
 ·cases h
theorem auZ {ρ:Env} {R C:aaZ} {y:Operand} {k:IntKind} {i nt:Nat} {u:V} {a:Act} (hu:evO (R++C) y=some u) (hd:aau ρ u=.int k ((i:Nat):Int)) (r:Regs nt a (dR ρ (R++C))):Regs nt a (dR ρ (aHw R y k i++C)):=by
 unfold aHw
 split
 ·rename_i t
  split
  ·rename_i k' j' hg
   have hg':get (R++C) t=some (.i k' j'):=ar5 hg
   have e:u=.i k' j':=by
    have:get (R++C) t=some u:=hu
    rw [hg'] at this; exact (Option.some.inj this).symm
   refine ⟨r.size,r.defers,fun p hp =>?_⟩
   obtain ⟨q,hq,rfl⟩:=List.mem_map.1 hp
   rcases List.mem_append.1 hq with h1 | h1
   ·rcases List.mem_cons.1 h1 with e1 | e1
    ·subst e1
     have:=r.has _ (akA (ρ:=ρ) hg')
     rw [← e,hd] at this
     exact this
    ·exact r.has _ (List.mem_map.2 ⟨q,List.mem_append_left _ (aiv e1).1,rfl⟩)
   ·exact r.has _ (List.mem_map.2 ⟨q,List.mem_append_right _ h1,rfl⟩)
  ·exact r
 ·exact r
abbrev ak0 (K:KT):=(α:Type)→FuncId→List V→Nat→KT.H K→KT.H K→(Nat→KT.H K→V→Option α)→Option α
def akD (K:KT) (P:Program) (B:Nat) (W:World) (call:ak0 K):Prop :=
 ∀ (α:Type) fid vs n Z H (k:Nat→KT.H K→V→Option α) out,call α fid vs n Z H k=some out→aib vs≤n→afl Z≤n→afl H≤n→∀ F ρ w,Cls B W (dS K ρ Z H F) w →
  aga P fid (aag ρ vs).toArray w fun e w' =>∃ x:Nx K,(aay n ρ x.ρ∧n≤x.n∧k x.n x.H x.v=some out)∧e=.returned (aau x.ρ x.v)∧Cls B W (dS K x.ρ Z x.H F) w'
section
variable (K:KT) (P:Program) (call:ak0 K) {α:Type}
def stp (o:Oper) (R:aaZ) (n:Nat) (Z H:KT.H K) (k:Nat→KT.H K→V→Option α):Option α :=
  match evX K P R n Z H o.op with
  | some (gs,n',H',v) =>gds gs (k n' H' v)
  | none =>match aKc K P R n Z H o.op with
   | some (n',H',v) =>k n' H' v
   | none =>match o.op with
    | .load T x =>match evO R x with
      | some u =>match ldV K P (H++Z) T u with
        | some v =>k n H v
        | none =>match azs K H u with
          | some H1 =>match aJq K P R n Z H1 T u with
            | some (n',H',v) =>k n' H' v
            | none =>none
          | none =>match aJq K P R n Z H T u with
            | some (n',H',v) =>k n' H' v
            | none =>match aGg K P R n Z H T u with
              | some (n',H',v) =>k n' H' v
              | none =>none
      | none =>none
    | .store T x y =>match evO R x with
      | some u =>match evO R y with
        | some v =>match aJp K P H T u v with
          | some H' =>k n H' (.c undef)
          | none =>match aGb K P H T u v with
            | some H' =>k n H' (.c undef)
            | none =>match azs K H u with
              | some H1 =>match aJp K P H1 T u v with
                | some H' =>k n H' (.c undef)
                | none =>none
              | none =>none
        | none =>none
      | none =>none
    | .alloc T =>match auI P T with
      | some vs =>match aGQ K R n Z H vs with
        | some (n',H',v) =>k n' H' v
        | none =>none
      | none =>none
    | .indexAddr T x y =>match aD9 P R T x y with
      | some (q,(len,j,sz),_) =>asb j (fun i =>k n H (.ptr q.1 (q.2+i*sz))) len
      | none =>match aKe P R T x y with
        | some (q,(len,j,sz),kb) =>gds [⟨j<kb,inferInstance⟩] (asb j (fun i =>k n H (.ptr q.1 (q.2+i*sz))) len)
        | none =>match aGV K P R (H++Z) T x y with
          | some (q,(len,j,sz),_) =>asb j (fun i =>k n H (.ptr q.1 (q.2+i*sz))) len
          | none =>none
    | .box _ x =>match evO R x with
      | some u =>match (aaD u).all (scV H) with
        | true =>match aGQ K R n Z H (aaD u) with
          | some (n',H',v) =>k n' H' v
          | none =>none
        | false =>none
      | none =>none
    | .makeSlice T x y =>match evO R x with
      | some u =>match evO R y with
        | some v =>match aKd K P R n Z H T u v with
          | some (gs,n',H',r) =>gds gs (k n' H' r)
          | none =>none
        | none =>none
      | none =>none
    | .buildSlice T m parts =>match aKg K P R n Z H T m parts.toList with
     | some (n',H',v) =>k n' H' v
     | none =>match aKh K P R n Z H T m parts.toList with
      | some (n',H',v) =>k n' H' v
      | none =>match aKj K P R n Z H T m parts.toList with
        | some (n',H',v) =>k n' H' v
        | none =>none
    | .call c =>match c.callee with
      | .builtin .append =>match c.args.toList with
        | [x,y] =>match c.argTypes.toList with
          | [T,T'] =>match evO R x with
            | some u =>match evO R y with
              | some v =>match aKo K P R n Z H T T' u v with
                | some (gs,n',H',r) =>gds gs (k n' H' r)
                | none =>match aKn K P R n Z H T T' u v with
                  | some (gs,n',H',r) =>gds gs (k n' H' r)
                  | none =>match aKm K P R n Z H T T' u v with
                    | some (gs,n',H',r) =>gds gs (k n' H' r)
                    | none =>match aKl K P R n Z H T T' u v with
                      | some (n',H',r) =>k n' H' r
                      | none =>none
              | none =>none
            | none =>none
          | _ =>none
        | _ =>none
      | .value f =>match evO R f with
        | some (.fn fid caps) =>match aGd R c.args.toList with
          | some vs =>match ax7 P fid && abW K R n Z H && Nat.ble (aib (vs++caps)) n && Nat.blt fid agk with
            | true =>call α fid (vs++caps) n Z H k
            | false =>none
          | none =>none
        | _ =>none
      | .invoke x name =>match mI name with
        | some i =>match evO R x with
          | some (.mc id) =>match aGd R c.args.toList with
            | some vs =>match abW K R n Z H && Nat.ble (aib (.mc id::vs)) n with
              | true =>call α (agk+i) (.mc id::vs) n Z H k
              | false =>none
            | none =>none
          | some (.ifc T u) =>match aFM P T name with
            | some f =>match aGd R c.args.toList with
              | some vs =>match ax7 P f && abW K R n Z H && Nat.ble (aib (u::vs)) n && Nat.blt f agk with
                | true =>call α f (u::vs) n Z H k
                | false =>none
              | none =>none
            | none =>none
          | _ =>none
        | none =>none
      | _ =>none
    | _ =>none
end
section
variable {K:KT} {P:Program} {call:ak0 K} {α:Type} {nt n B:Nat} {W:World} {R:aaZ} {Z H:KT.H K}
theorem aIV {ρ:Env} (H H':KT.H K):dH K ρ (H++H')=dH K ρ H++dH K ρ H':=by simp [dH]
theorem awc {o:Oper} {H1:KT.H K} {nx:Nat→KT.H K→V→Prop} (hT:∀ (ρ:Env) (w:World) (X:List aad),Sat B w (dH K ρ H++X)→Sat B w (dH K ρ H1++X)) (h:aeo K P nt B W o R n Z H1 nx):aeo K P nt B W o R n Z H nx :=
 fun F ρ a w s =>h F ρ a w ⟨s.regs,s.below,s.lo,hT ρ w _ s.sat⟩
theorem aDG (hc:akD K P B W call) {o:Oper} {k:Nat→KT.H K→V→Option α} {out:α} (h:stp K P call o R n Z H k=some out):aeo K P nt B W o R n Z H (fun n' H' v =>k n' H' v=some out):=by
 unfold stp at h
 split at h
 ·rename_i gs n' H' v he
  obtain ⟨h1,h2⟩:=al0 h
  intro F ρ a w s
  obtain ⟨ρ',⟨q1,q2,q3⟩,_,q4,q5⟩:=aD8 he h1 s.sat s.regs
  rw [q5 w]
  exact ⟨⟨ρ',n',H',v⟩,rfl,⟨q1,q2,q3,h2⟩,s.below,s.lo,q4 w s.sat⟩
 split at h
 ·rename_i he
  exact aGf he h
 ·split at h
  ·rename_i T x ho
   split at h
   ·rename_i u hx
    split at h
    ·rename_i v he
     intro F ρ a w s
     have s1:Sat B w (dH K ρ (H++Z)++[F]):=by rw [aIV,List.append_assoc]; exact s.sat
     rw [aFT ho hx he s.regs s1]
     exact ⟨⟨ρ,n,H,v⟩,rfl,⟨aay.refl _ _,Nat.le_refl _,rfl,h⟩,s.cls⟩
    ·split at h
     ·rename_i hop
      split at h
      ·rename_i he
       exact awc (fun _ _ _ =>arN hop) (as5 ho hx he h)
      ·cases h
     ·split at h
      ·rename_i he
       exact as5 ho hx he h
      ·split at h
       ·rename_i he
        exact axH ho hx he h
       ·cases h
   ·cases h
  ·rename_i T x y ho
   split at h
   ·rename_i hx
    split at h
    ·rename_i hy
     split at h
     ·rename_i he; exact aqw ho hx hy he h
     ·split at h
      ·rename_i he; exact auO ho hx hy he h
      ·split at h
       ·rename_i hop
        split at h
        ·rename_i he
         exact awc (fun _ _ _ =>arN hop) (aqw ho hx hy he h)
        ·cases h
       ·cases h
    ·cases h
   ·cases h
  ·rename_i T ho
   split at h
   ·rename_i hz
    split at h
    ·rename_i he; exact axI ho hz he h
    ·cases h
   ·cases h
  ·rename_i T x y ho
   split at h
   ·rename_i q len j sz kk he
    obtain ⟨i,h1,h2,h3⟩:=ais h
    obtain ⟨id,o'⟩:=q
    intro F ρ a w s
    obtain ⟨d,op,ty,ps,af,g⟩:=o
    simp only at ho
    subst ho
    rw [avC he s.regs h1 h2 w]
    exact ⟨⟨ρ,n,H,_⟩,rfl,⟨aay.refl _ _,Nat.le_refl _,rfl,h3⟩,s.cls⟩
   ·split at h
    ·rename_i q len j sz kb he
     obtain ⟨hg,h⟩:=al0 h
     have hb:j<kb:=hg _ (List.mem_singleton.2 rfl)
     obtain ⟨i,h1,h2,h3⟩:=ais h
     obtain ⟨id,o'⟩:=q
     intro F ρ a w s
     obtain ⟨d,op,ty,ps,af,g⟩:=o
     simp only at ho
     subst ho
     rw [aGh he hb s.regs h2 w]
     exact ⟨⟨ρ,n,H,_⟩,rfl,⟨aay.refl _ _,Nat.le_refl _,rfl,h3⟩,s.cls⟩
    ·split at h
     ·rename_i q len j sz kk he
      obtain ⟨i,h1,h2,h3⟩:=ais h
      obtain ⟨id,o'⟩:=q
      intro F ρ a w s
      obtain ⟨d,op,ty,ps,af,g⟩:=o
      simp only at ho
      subst ho
      rw [az9 he (adQ s.sat) s.regs h1 h2 w]
      exact ⟨⟨ρ,n,H,_⟩,rfl,⟨aay.refl _ _,Nat.le_refl _,rfl,h3⟩,s.cls⟩
     ·cases h
  ·rename_i T x ho
   split at h
   ·rename_i hx
    split at h
    ·rename_i hs
     split at h
     ·rename_i he; exact aBD ho hx hs he h
     ·cases h
    ·cases h
   ·cases h
  ·rename_i T x y ho
   split at h
   ·rename_i hx
    split at h
    ·rename_i hy
     split at h
     ·rename_i he
      obtain ⟨h1,h2⟩:=al0 h
      exact aEw ho hx hy he h1 h2
     ·cases h
    ·cases h
   ·cases h
  ·rename_i T m parts ho
   split at h
   ·rename_i he; exact aEx ho he h
   ·split at h
    ·rename_i he; exact aEy ho he h
    ·split at h
     ·rename_i he; exact aEz ho he h
     ·cases h
  ·rename_i c ho
   split at h
   ·rename_i hf
    split at h
    ·rename_i x y hxs
     split at h
     ·rename_i T T' hts
      split at h
      ·rename_i hx
       split at h
       ·rename_i hy
        split at h
        ·rename_i he
         obtain ⟨h1,h2⟩:=al0 h
         obtain ⟨callee,xs,ts⟩:=c
         simp only at hf hxs hts
         subst hf
         obtain rfl:xs=#[x,y]:=by apply Array.ext'; simpa using hxs
         obtain rfl:ts=#[T,T']:=by apply Array.ext'; simpa using hts
         exact aED ho hx hy he h1 h2
        ·split at h
         ·rename_i he
          obtain ⟨h1,h2⟩:=al0 h
          obtain ⟨callee,xs,ts⟩:=c
          simp only at hf hxs hts
          subst hf
          obtain rfl:xs=#[x,y]:=by apply Array.ext'; simpa using hxs
          obtain rfl:ts=#[T,T']:=by apply Array.ext'; simpa using hts
          exact aEC ho hx hy he h1 h2
         ·split at h
          ·rename_i he
           obtain ⟨h1,h2⟩:=al0 h
           obtain ⟨callee,xs,ts⟩:=c
           simp only at hf hxs hts
           subst hf
           obtain rfl:xs=#[x,y]:=by apply Array.ext'; simpa using hxs
           obtain rfl:ts=#[T,T']:=by apply Array.ext'; simpa using hts
           exact aEB K.nc ho hx hy he h1 h2
          ·split at h
           ·rename_i he
            obtain ⟨callee,xs,ts⟩:=c
            simp only at hf hxs hts
            subst hf
            obtain rfl:xs=#[x,y]:=by apply Array.ext'; simpa using hxs
            obtain rfl:ts=#[T,T']:=by apply Array.ext'; simpa using hts
            exact aEA ho hx hy he h
           ·cases h
       ·cases h
      ·cases h
     ·cases h
    ·cases h
   ·rename_i f hf
    split at h
    ·rename_i fid caps hfn
     split at h
     ·rename_i vs hvs
      split at h
      ·rename_i hB
       intro F ρ a w s
       obtain ⟨d,op,ty,ps,af,g⟩:=o
       simp only at ho
       subst ho
       obtain ⟨callee,xs,ts⟩:=c
       simp only at hf hvs
       subst hf
       simp only [Bool.and_eq_true,abW] at hB
       obtain ⟨⟨⟨b1,⟨⟨b2,b3⟩,b4⟩⟩,b5⟩,b6⟩:=hB
       have ef:=(aaH (ρ:=ρ) hfn).eval s.regs
       have exs:=(apT (ρ:=ρ) hvs).eval s.regs
       simp only [aau] at ef
       rw [aFz (fst:=#[]) (cap:=(aag ρ caps).toArray) ef b1 exs]
       have e:(#[]++(aag ρ vs).toArray++(aag ρ caps).toArray:Array Value)=(aag ρ (vs++caps)).toArray:=by rw [apX]; simp
       rw [e]
       show Calls P fid _ w _
       have hcm:=hc _ _ _ _ _ _ _ _ h (Nat.le_of_ble_eq_true b5) (Nat.le_of_ble_eq_true b3) (Nat.le_of_ble_eq_true b4) F ρ w s.cls
       rw [aem b6] at hcm
       refine hcm.mono ?_
       rintro e w' ⟨x,⟨h1,h2,h3⟩,h4,h5⟩
       exact ⟨x,h4,⟨h1,h2,(abU h1 R (Nat.le_of_ble_eq_true b2)).symm,h3⟩,h5⟩
      ·cases h
     ·cases h
    ·cases h
   ·rename_i x name hf
    split at h
    ·rename_i i hmi
     split at h
     ·rename_i id hx
      split at h
      ·rename_i vs hvs
       split at h
       ·rename_i hB
        intro F ρ a w s
        obtain ⟨d,op,ty,ps,af,g⟩:=o
        simp only at ho
        subst ho
        obtain ⟨callee,xs,ts⟩:=c
        simp only at hf hvs
        subst hf
        simp only [Bool.and_eq_true,abW] at hB
        obtain ⟨⟨⟨b2,b3⟩,b4⟩,b5⟩:=hB
        have ex:=(aaH (ρ:=ρ) hx).eval s.regs
        have exs:=(apT (ρ:=ρ) hvs).eval s.regs
        have hcm:=hc _ _ _ _ _ _ _ _ h (Nat.le_of_ble_eq_true b5) (Nat.le_of_ble_eq_true b3) (Nat.le_of_ble_eq_true b4) F ρ w s.cls
        rw [ap7] at hcm
        obtain ⟨T,u,rest,f,e,hrun,hcall⟩:=hcm
        have e':aau ρ (.mc id)::aag ρ vs=.iface T u::rest.toList:=by
         have:=congrArg Array.toList e
         simpa [aag] using this
        simp only [List.cons.injEq] at e'
        obtain ⟨e1,e2⟩:=e'
        have e3:rest=(aag ρ vs).toArray:=by apply Array.ext'; rw [← e2]
        subst e3
        rw [e1] at ex
        rw [atK ex exs (by rw [← aJW hmi]; exact hrun w)]
        show Calls P f _ w _
        refine hcall.mono ?_
        rintro e w' ⟨x,⟨h1,h2,h3⟩,h4,h5⟩
        exact ⟨x,h4,⟨h1,h2,(abU h1 R (Nat.le_of_ble_eq_true b2)).symm,h3⟩,h5⟩
       ·cases h
      ·cases h
     ·rename_i T u hx
      split at h
      ·rename_i f hml
       split at h
       ·rename_i vs hvs
        split at h
        ·rename_i hB
         intro F ρ a w s
         obtain ⟨d,op,ty,ps,af,g⟩:=o
         simp only at ho
         subst ho
         obtain ⟨callee,xs,ts⟩:=c
         simp only at hf hvs
         subst hf
         simp only [Bool.and_eq_true,abW] at hB
         obtain ⟨⟨⟨b1,⟨⟨b2,b3⟩,b4⟩⟩,b5⟩,b6⟩:=hB
         have ex:=(aaH (ρ:=ρ) hx).eval s.regs
         have exs:=(apT (ρ:=ρ) hvs).eval s.regs
         simp only [aau] at ex
         rw [atK ex exs (aCz hml b1 _ _ _)]
         have e:(#[aau ρ u]++(aag ρ vs).toArray:Array Value)=(aag ρ (u::vs)).toArray:=by simp [aag]
         rw [e]
         show Calls P f _ w _
         have hcm:=hc _ _ _ _ _ _ _ _ h (Nat.le_of_ble_eq_true b5) (Nat.le_of_ble_eq_true b3) (Nat.le_of_ble_eq_true b4) F ρ w s.cls
         rw [aem b6] at hcm
         refine hcm.mono ?_
         rintro e w' ⟨x,⟨h1,h2,h3⟩,h4,h5⟩
         exact ⟨x,h4,⟨h1,h2,(abU h1 R (Nat.le_of_ble_eq_true b2)).symm,h3⟩,h5⟩
        ·cases h
       ·cases h
      ·cases h
     ·cases h
    ·cases h
   ·cases h
  ·cases h
end
inductive Gs where
 | yes
 | no
 | p (d:Nat) (c:Bool) (P:Prop) (dec:Decidable P)
 | b (d:Nat) (c:Bool) (x:Bool)
def aKv:Bool→Bool→Bool
 | true,true =>true
 | false,false =>true
 | _,_ =>false
theorem avS {x y:Bool}:(x == y)=aKv x y:=by cases x<;>cases y<;>rfl
def aJ0:Value→Bool
 | .tuple cs =>Nat.beq cs.size 0
 | _ =>false
theorem aFY {v:Value} (h:aJ0 v=true):v=undef:=by
 unfold aJ0 at h
 split at h
 ·rename_i cs
  have:=Nat.eq_of_beq_eq_true h
  obtain rfl:=Array.eq_empty_of_size_eq_zero this
  rfl
 ·cases h
def gst (ops:Array Oper) (R:aaZ):Option (Nat×Bool)→Option Gs
 | none =>some .yes
 | some (j,c) =>match ops[j]? with
  | some oj =>match oj.dst with
   | some d =>match get R d with
    | some (.t x) =>match aKv x c with
     | true =>some .yes
     | false =>some .no
    | some (.p P dec) =>some (.p d c P dec)
    | some (.b x) =>some (.b d c x)
    | some (.c v) =>match aJ0 v with
     | true =>some .no
     | false =>none
    | _ =>none
   | none =>none
  | none =>none
theorem aF3 {ops:Array Oper} {R:aaZ} {ρ:Env} {g:Option (Nat×Bool)} (h:gst ops R g=some .yes):ajN ops (dR ρ R) g true:=by
 unfold gst at h
 split at h
 ·exact axE
 ·split at h
  ·rename_i hj
   split at h
   ·rename_i hd
    split at h
    ·rename_i x hg
     split at h
     ·rename_i hb
      exact amr hj hd (akA hg) (by rw [avS]; exact hb)
     ·cases h
    ·cases h
    ·cases h
    ·split at h<;>cases h
    ·cases h
   ·cases h
  ·cases h
theorem aIz {ops:Array Oper} {R:aaZ} {ρ:Env} {g:Option (Nat×Bool)} (h:gst ops R g=some .no):ajN ops (dR ρ R) g false:=by
 unfold gst at h
 split at h
 ·cases h
 ·split at h
  ·rename_i hj
   split at h
   ·rename_i hd
    split at h
    ·rename_i x hg
     split at h
     ·cases h
     ·rename_i hb
      exact amr hj hd (akA hg) (by rw [avS]; exact hb)
    ·cases h
    ·cases h
    ·rename_i hg
     split at h
     ·rename_i hu
      refine auK hj hd ?_
      have:=akA (ρ:=ρ) hg
      simp only [aau] at this
      rw [aFY hu] at this
      exact this
     ·cases h
    ·cases h
   ·cases h
  ·cases h
def aBc (R:aaZ) (d:Nat) (x:Bool):aaZ:=(d,.t x)::del R d
theorem auR {ρ:Env} {R:aaZ} {d nt:Nat} {v:V} {x:Bool} {a:Act} (hg:get R d=some v) (hv:aau ρ v=.bool x) (r:Regs nt a (dR ρ R)):Regs nt a (dR ρ (aBc R d x)) :=
 ⟨r.size,r.defers,fun p hp =>by
  obtain ⟨q,hq,rfl⟩:=List.mem_map.1 hp
  rcases List.mem_cons.1 hq with e | e
  ·subst e
   have:=r.has _ (akA (ρ:=ρ) hg)
   rw [hv] at this
   exact this
  ·exact r.has _ (List.mem_map.2 ⟨q,(aiv e).1,rfl⟩)⟩
theorem aJ5 {ops:Array Oper} {R:aaZ} {g:Option (Nat×Bool)} {d:Nat} {c:Bool} {P:Prop} {dec:Decidable P} (h:gst ops R g=some (.p d c P dec)):get R d=some (.p P dec)∧∃ j oj,g=some (j,c)∧ops[j]?=some oj∧oj.dst=some d:=by
 unfold gst at h
 split at h
 ·cases h
 ·split at h
  ·rename_i hj
   split at h
   ·rename_i hd
    split at h
    ·split at h<;>cases h
    ·rename_i hg
     cases h
     exact ⟨hg,_,_,rfl,hj,hd⟩
    ·cases h
    ·split at h<;>cases h
    ·cases h
   ·cases h
  ·cases h
theorem aJ6 {ops:Array Oper} {R:aaZ} {g:Option (Nat×Bool)} {d:Nat} {c x:Bool} (h:gst ops R g=some (.b d c x)):get R d=some (.b x)∧∃ j oj,g=some (j,c)∧ops[j]?=some oj∧oj.dst=some d:=by
 unfold gst at h
 split at h
 ·cases h
 ·split at h
  ·rename_i hj
   split at h
   ·rename_i hd
    split at h
    ·split at h<;>cases h
    ·cases h
    ·rename_i hg
     cases h
     exact ⟨hg,_,_,rfl,hj,hd⟩
    ·split at h<;>cases h
    ·cases h
   ·cases h
  ·cases h
theorem afz {ops:Array Oper} {R:aaZ} {ρ:Env} {j d:Nat} {c x:Bool} {oj:Oper} (hj:ops[j]?=some oj) (hd:oj.dst=some d):ajN ops (dR ρ (aBc R d x)) (some (j,c)) (aKv x c) :=
 amr hj hd (List.mem_cons_self ..) avS
def byG {α:Type} (ops:Array Oper) (R:aaZ) (g:Option (Nat×Bool)) (yes no:aaZ→Option α):Option α :=
 match gst ops R g with
 | some .yes =>yes R
 | some .no =>no R
 | some (.p d c P dec) =>match c with
  | true =>@ite _ P dec (yes (aBc R d true)) (no (aBc R d false))
  | false =>@ite _ P dec (no (aBc R d true)) (yes (aBc R d false))
 | some (.b d c x) =>match c with
  | true =>if x=true then yes (aBc R d true) else no (aBc R d false)
  | false =>if x=true then no (aBc R d true) else yes (aBc R d false)
 | none =>none
theorem aI0 {α:Type} {ops:Array Oper} {R:aaZ} {g:Option (Nat×Bool)} {yes no:aaZ→Option α} {out:α} (h:byG ops R g yes no=some out) {ρ:Env} {nt:Nat} {a:Act} (r:Regs nt a (dR ρ R)) :
  ∃ R',Regs nt a (dR ρ R')∧((ajN ops (dR ρ R') g true∧yes R'=some out)∨(ajN ops (dR ρ R') g false∧no R'=some out)):=by
 unfold byG at h
 split at h
 ·rename_i hg; exact ⟨R,r,.inl ⟨aF3 hg,h⟩⟩
 ·rename_i hg; exact ⟨R,r,.inr ⟨aIz hg,h⟩⟩
 ·rename_i d c P dec hg
  obtain ⟨h1,j,oj,rfl,hj,hd⟩:=aJ5 hg
  by_cases hp:P
  ·have r':=auR (x:=true) h1 (by simp [aau,hp]) r
   refine ⟨_,r',?_⟩
   cases c with
   | true =>simp only [if_pos hp] at h; exact .inl ⟨afz hj hd,h⟩
   | false =>simp only [if_pos hp] at h; exact .inr ⟨afz hj hd,h⟩
  ·have r':=auR (x:=false) h1 (by simp [aau,hp]) r
   refine ⟨_,r',?_⟩
   cases c with
   | true =>simp only [if_neg hp] at h; exact .inr ⟨afz hj hd,h⟩
   | false =>simp only [if_neg hp] at h; exact .inl ⟨afz hj hd,h⟩
 ·rename_i d c x hg
  obtain ⟨h1,j,oj,rfl,hj,hd⟩:=aJ6 hg
  have r':=auR (x:=x) h1 rfl r
  cases x<;>cases c<;>simp only [Bool.false_eq_true,if_false,if_true] at h
  ·exact ⟨_,r',.inl ⟨afz hj hd,h⟩⟩
  ·exact ⟨_,r',.inr ⟨afz hj hd,h⟩⟩
  ·exact ⟨_,r',.inr ⟨afz hj hd,h⟩⟩
  ·exact ⟨_,r',.inl ⟨afz hj hd,h⟩⟩
 ·cases h
def atN (C:aaZ):Option Tmp→Bool
 | none =>true
 | some d =>(get C d).isNone
theorem aAl {C:aaZ} {d:Nat} (h:(get C d).isNone=true):del C d=C:=by
 induction C with
 | nil =>rfl
 | cons p C ih =>
  obtain ⟨t,v⟩:=p
  unfold get at h
  unfold del
  split
  ·rename_i e; simp [e] at h
  ·rename_i e; simp only [e] at h; rw [ih h]
theorem axk {α:Type} {t d:Nat} {v:α} {R:List (Nat×α)}:del ((t,v)::R) d=match Nat.beq t d with | true =>del R d | false =>(t,v)::del R d:=rfl
theorem aAm {α:Type} {d:Nat}:∀ (R C:List (Nat×α)),del (R++C) d=del R d++del C d
 | [],_ =>rfl
 | (t,v)::R,C =>by
  rw [List.cons_append,axk,axk,aAm R C]
  cases Nat.beq t d<;>rfl
theorem aeR {R C:aaZ} {d:Option Tmp} {v:V} (h:atN C d=true):aqF (R++C) d v=aqF R d v++C:=by
 cases d with
 | none =>rfl
 | some d =>simp only [aqF,aAm,aAl h,List.cons_append]
theorem asx {α:Type} {ops:Array Oper} {R C:aaZ} {g:Option (Nat×Bool)} {yes no:aaZ→Option α} {out:α} (h:byG ops R g yes no=some out) {ρ:Env} {nt:Nat} {a:Act} (r:Regs nt a (dR ρ (R++C))) :
  ∃ R',Regs nt a (dR ρ (R'++C))∧((ajN ops (dR ρ (R'++C)) g true∧yes R'=some out)∨(ajN ops (dR ρ (R'++C)) g false∧no R'=some out)):=by
 have rR:Regs nt a (dR ρ R):=r.sub fun p hp =>by unfold dR; rw [List.map_append]; exact List.mem_append_left _ hp
 have rC:Regs nt a (dR ρ C):=r.sub fun p hp =>by unfold dR; rw [List.map_append]; exact List.mem_append_right _ hp
 have up:∀ R':aaZ,Regs nt a (dR ρ R')→Regs nt a (dR ρ (R'++C)):=fun R' h =>⟨h.size,h.defers,fun p hp =>by
  unfold dR at hp; rw [List.map_append] at hp
  exact (List.mem_append.1 hp).elim (h.has p) (rC.has p)⟩
 have upW:∀ (R':aaZ) (b:Bool),ajN ops (dR ρ R') g b→ajN ops (dR ρ (R'++C)) g b:=fun R' b h =>by
  cases g with
  | none =>exact h
  | some q =>
   rcases h with ⟨o,d,x,h1,h2,h3,h4⟩ | ⟨hb,o,d,h1,h2,h3⟩
   ·exact .inl ⟨o,d,x,h1,h2,by unfold dR; rw [List.map_append]; exact List.mem_append_left _ h3,h4⟩
   ·exact .inr ⟨hb,o,d,h1,h2,by unfold dR; rw [List.map_append]; exact List.mem_append_left _ h3⟩
 obtain ⟨R',h1,h2⟩:=aI0 h rR
 exact ⟨R',up R' h1,h2.imp (fun ⟨a,b⟩ =>⟨upW _ _ a,b⟩) (fun ⟨a,b⟩ =>⟨upW _ _ a,b⟩)⟩
def ane (m j:Nat):Bool:=Nat.beq (Nat.land (Nat.shiftRight m j) 1) 1
theorem ahq (m j:Nat):ane m j=m.testBit j:=by
 have e:ane m j=decide (m / 2 ^ j % 2=1):=by
  show Nat.beq ((m >>> j) &&& 1) 1=_
  rw [Nat.and_one_is_mod,Nat.shiftRight_eq_div_pow]
  cases h:Nat.beq (m / 2 ^ j % 2) 1 with
  | true =>have:=Nat.eq_of_beq_eq_true h; simp [this]
  | false =>have:=Nat.ne_of_beq_eq_false h; simp [this]
 rw [e,Nat.testBit_eq_decide_div_mod_eq]
theorem aAO (a b j:Nat):ane (Nat.lor a b) j=(ane a j || ane b j):=by
 rw [ahq,ahq,ahq]; exact Nat.testBit_or ..
theorem asA (i j:Nat):ane (Nat.pow 2 i) j=decide (i=j):=by
 rw [ahq]; exact Nat.testBit_two_pow
theorem axy (j:Nat):ane 0 j=false:=by rw [ahq]; simp
theorem aCD {d m j:Nat} (h:Nat.land d m=d) (hd:ane d j=true):ane m j=true:=by
 rw [ahq] at hd ⊢
 have:=congrArg (fun x =>Nat.testBit x j) h
 have e:(d &&& m).testBit j=d.testBit j:=this
 rw [Nat.testBit_and,hd] at e
 simpa using e
theorem aFV {d m:Nat} (h:∀ j,ane d j=true→ane m j=true):Nat.land d m=d:=by
 refine Nat.eq_of_testBit_eq fun j =>?_
 have e:(Nat.land d m).testBit j=(d.testBit j && m.testBit j):=Nat.testBit_and ..
 rw [e]
 have:=h j
 rw [ahq,ahq] at this
 cases hd:d.testBit j with
 | false =>rfl
 | true =>rw [this hd]; rfl
theorem aFW {d m:Nat} (h:Nat.beq (Nat.land d m) 0=false):∃ j,ane d j=true∧ane m j=true:=by
 refine Classical.byContradiction fun hn =>?_
 have:Nat.land d m=0:=by
  refine Nat.eq_of_testBit_eq fun j =>?_
  have e:(Nat.land d m).testBit j=(d.testBit j && m.testBit j):=Nat.testBit_and ..
  rw [e]
  cases h1:d.testBit j with
  | false =>simp
  | true =>cases h2:m.testBit j with
   | false =>simp
   | true =>exact absurd ⟨j,by rw [ahq]; exact h1,by rw [ahq]; exact h2⟩ hn
 rw [this] at h; cases h
def aGW:List Edge→Nat
 | [] =>0
 | e::l =>match Region.binds .any e with
  | true =>Nat.lor (Nat.pow 2 e.on) (aGW l)
  | false =>aGW l
theorem aiF {j:Nat}:∀ {l:List Edge},ane (aGW l) j=true↔∃ e∈l,Region.binds .any e=true∧e.on=j
 | [] =>by simp [aGW,axy]
 | e::l =>by
  unfold aGW
  cases hb:Region.binds .any e with
  | true =>
   simp only [aAO,asA,Bool.or_eq_true,decide_eq_true_eq,aiF (l:=l),List.mem_cons,exists_eq_or_imp,hb,true_and]
  | false =>
   simp only [aiF (l:=l),List.mem_cons,exists_eq_or_imp,hb,Bool.false_eq_true,false_and,false_or]
def aEc (o:Oper):Nat:=aGW o.after.toList
abbrev Pre:=List (Nat×Nat×Oper)
def ay7:List Oper→Nat→Pre
 | [],_ =>[]
 | o::l,i =>(i,aEc o,o)::ay7 l (i+1)
def ay6 {α:Type}:List Oper→Nat→(Pre→α)→α
 | [],_,k =>k []
 | o::l,i,k =>aek (aEc o) fun d =>aek (i+1) fun i' =>ay6 l i' fun L =>k ((i,d,o)::L)
theorem awx {α:Type}:∀ (l:List Oper) (i:Nat) (k:Pre→α),ay6 l i k=k (ay7 l i)
 | [],_,_ =>rfl
 | o::l,i,k =>by unfold ay6 ay7; rw [adf,adf,awx l]
theorem awy {i d:Nat} {o:Oper}:∀ {l:List Oper} {j:Nat},(i,d,o)∈ay7 l j↔(j≤i∧l[i-j]?=some o∧d=aEc o)
 | [],j =>by simp [ay7]
 | o'::l,j =>by
  unfold ay7
  rw [List.mem_cons,awy (l:=l) (j:=j+1)]
  constructor
  ·rintro (h | ⟨h1,h2,h3⟩)
   ·cases h; simp
   ·refine ⟨by omega,?_,h3⟩
    have e:i-j=(i-(j+1))+1:=by omega
    rw [e,List.getElem?_cons_succ]; exact h2
  ·rintro ⟨h1,h2,h3⟩
   rcases Nat.eq_or_lt_of_le h1 with e | e
   ·subst e
    simp at h2
    subst h2
    exact .inl (by rw [h3])
   ·refine .inr ⟨by omega,?_,h3⟩
    have e2:i-j=(i-(j+1))+1:=by omega
    rw [e2,List.getElem?_cons_succ] at h2; exact h2
def aHu (m i d:Nat):Bool:=match ane m i with
 | true =>false
 | false =>Nat.beq (Nat.land d m) d
def avB (f:Op→Bool) (m:Nat):Pre→Option (Nat×Oper)
 | [] =>none
 | (i,d,o)::L =>match aHu m i d with
  | true =>match f o.op with
   | true =>some (i,o)
   | false =>avB f m L
  | false =>avB f m L
def akv (m:Nat):Pre→List (Nat×Oper)
 | [] =>[]
 | (i,d,o)::L =>match aHu m i d with
  | true =>(i,o)::akv m L
  | false =>akv m L
def aob:Pre→Nat→Nat
 | [],acc =>acc
 | (i,d,_)::L,acc =>match Nat.beq (Nat.land d acc) 0 with
  | true =>aob L acc
  | false =>aek (Nat.lor acc (Nat.pow 2 i)) fun a =>aob L a
def okM (ops:Array Oper) (L:Pre):Bool:=Region.noSelect ops && L.all fun x =>L.all fun y =>Nat.beq x.1 y.1 || (ane y.2.1 x.1 || (ane x.2.1 y.1 || x.2.2.apart ops y.2.2))
structure RelM (ops:Array Oper) (m:Nat) (listed:Array Bool):Prop where
 size:listed.size=ops.size
 bit:∀ j,listed.getD j false=ane m j
section
variable {ops:Array Oper} {m:Nat} {listed:Array Bool} {L:Pre}
theorem RelM.bitT (h:RelM ops m listed) {j:Nat} (hj:j<ops.size):listed.getD j true=ane m j:=by
 rw [← h.bit j]
 simp only [Array.getD,h.size,hj,dif_pos]
theorem RelM.none:RelM ops 0 (Array.replicate ops.size false):=⟨by simp,fun j =>by
 rw [axy]
 simp only [Array.getD,Array.size_replicate]
 split<;>simp⟩
theorem RelM.set (h:RelM ops m listed) {i:Nat} (hi:i<ops.size):RelM ops (Nat.lor m (Nat.pow 2 i)) (listed.setIfInBounds i true):=⟨by simp [h.size],fun j =>by
 rw [aAO,asA,← h.bit j]
 by_cases e:i=j
 ·subst e
  simp only [Array.getD,Array.size_setIfInBounds,h.size,hi,dif_pos]
  simp
 ·have e2:(listed.setIfInBounds i true).getD j false=listed.getD j false:=by
   simp only [Array.getD,Array.size_setIfInBounds]
   split
   ·rename_i hj
    exact Array.getElem_setIfInBounds_ne hj e
   ·rfl
  rw [e2]; simp [e]⟩
theorem amF (h:RelM ops m listed) {i d:Nat} {o:Oper} (ho:ops[i]?=some o) (hd:d=aEc o):aHu m i d=true↔i∈Region.ready .any ops listed:=by
 have hi:i<ops.size:=(Array.getElem?_eq_some_iff.1 ho).1
 unfold Region.ready
 rw [List.mem_filter]
 simp only [List.mem_range,hi,true_and,h.bitT hi,ho,Option.map_some,Option.getD_some,Bool.and_eq_true,Bool.not_eq_true',Array.all_eq_true_iff_forall_mem]
 unfold aHu
 cases hb:ane m i with
 | true =>simp
 | false =>
  simp only [true_and]
  constructor
  ·intro hq e he
   have hq':=Nat.eq_of_beq_eq_true hq
   cases hbe:Region.binds .any e with
   | false =>simp
   | true =>
    have:ane d e.on=true:=by rw [hd]; exact aiF.2 ⟨e,by simpa using he,hbe,rfl⟩
    rw [h.bit,aCD hq' this]; simp
  ·intro hq
   rw [aFV fun j hj =>?_]
   ·exact Nat.beq_refl _
   ·rw [hd] at hj
    obtain ⟨e,he,hbe,hon⟩:=aiF.1 hj
    have:=hq e (by simpa using he)
    rw [hbe,hon,h.bit] at this
    simpa using this
theorem agI (hL:L=ay7 ops.toList 0) {i d:Nat} {o:Oper}:(i,d,o)∈L↔ops[i]?=some o∧d=aEc o:=by
 rw [hL,awy]; simp
theorem ahP (h:RelM ops m listed) {i:Nat} {o:Oper}:∀ {L:Pre},(∀ i d o,(i,d,o)∈L→ops[i]?=some o∧d=aEc o)→((i,o)∈akv m L↔(∃ d,(i,d,o)∈L)∧i∈Region.ready .any ops listed)
 | [],_ =>by simp [akv]
 | (i',d',o')::L,hL =>by
  have ih:=ahP h (i:=i) (o:=o) (L:=L) fun i d o hm =>hL i d o (List.mem_cons_of_mem _ hm)
  obtain ⟨h1,h2⟩:=hL i' d' o' (List.mem_cons_self ..)
  have hr:=amF h h1 h2
  unfold akv
  cases hq:aHu m i' d' with
  | true =>
   simp only [List.mem_cons,ih,Prod.mk.injEq]
   constructor
   ·rintro (⟨rfl,rfl⟩ | ⟨⟨d,hd⟩,hx⟩)
    ·exact ⟨⟨d',.inl ⟨rfl,rfl,rfl⟩⟩,hr.1 hq⟩
    ·exact ⟨⟨d,.inr hd⟩,hx⟩
   ·rintro ⟨⟨d,⟨rfl,rfl,rfl⟩ | hd⟩,hx⟩
    ·exact .inl ⟨rfl,rfl⟩
    ·exact .inr ⟨⟨d,hd⟩,hx⟩
  | false =>
   simp only [List.mem_cons,ih,Prod.mk.injEq]
   constructor
   ·rintro ⟨⟨d,hd⟩,hx⟩; exact ⟨⟨d,.inr hd⟩,hx⟩
   ·rintro ⟨⟨d,⟨rfl,rfl,rfl⟩ | hd⟩,hx⟩
    ·rw [hr.2 hx] at hq; cases hq
    ·exact ⟨⟨d,hd⟩,hx⟩
theorem aCq (hL:L=ay7 ops.toList 0) (hok:okM ops L=true) (h:RelM ops m listed) {i:Nat} (hm:i∈Region.ready .any ops listed):auN ops listed i=true:=by
 unfold okM at hok
 simp only [Bool.and_eq_true] at hok
 unfold auN
 simp only [Bool.and_eq_true]
 refine ⟨⟨hok.1,?_⟩,by simpa using hm⟩
 have hi:=List.mem_range.1 (List.mem_filter.1 hm).1
 unfold Region.free
 cases ho:ops[i]? with
 | none =>rw [Array.getElem?_eq_none_iff] at ho; omega
 | some oi =>
  simp only
  have h2:=List.all_eq_true.1 hok.2 (i,aEc oi,oi) ((agI hL).2 ⟨ho,rfl⟩)
  refine List.all_eq_true.2 fun j hj =>?_
  cases hl:listed.getD j true with
  | true =>simp
  | false =>
   cases hoj:ops[j]? with
   | none =>simp
   | some oj =>
    have h3:=List.all_eq_true.1 h2 (j,aEc oj,oj) ((agI hL).2 ⟨hoj,rfl⟩)
    simp only [Bool.or_eq_true] at h3 ⊢
    rcases h3 with h3 | h3 | h3 | h3
    ·exact .inl (.inl (by rw [Nat.eq_of_beq_eq_true h3]; simp))
    ·refine .inr (.inl ?_)
     obtain ⟨e,he,hb,hon⟩:=aiF.1 h3
     exact Array.any_eq_true'.2 ⟨e,by simpa using he,by simp [hb,hon]⟩
    ·exfalso
     obtain ⟨e,he,hb,hon⟩:=aiF.1 h3
     have hr:=(amF h ho rfl).2 hm
     have h4:=(List.mem_filter.1 hm).2
     simp only [ho,Option.map_some,Option.getD_some,Bool.and_eq_true,Array.all_eq_true_iff_forall_mem] at h4
     have h5:=h4.2 e (by simpa using he)
     rw [hb,hon] at h5
     have hj':j<ops.size:=(Array.getElem?_eq_some_iff.1 hoj).1
     rw [h.bitT hj',← h.bit j] at hl
     rw [hl] at h5; simp at h5
    ·exact .inr (.inr h3)
theorem aqV (hL:L=ay7 ops.toList 0) (hok:okM ops L=true) (h:RelM ops m listed) {f:Op→Bool} {i:Nat} {o:Oper} (hf:avB f m L=some (i,o)):ops[i]?=some o∧auN ops listed i=true∧i∈Region.ready .any ops listed:=by
 have key:∀ M:Pre,(∀ x∈M,x∈L)→avB f m M=some (i,o)→ops[i]?=some o∧i∈Region.ready .any ops listed:=fun M =>by
  induction M with
  | nil =>intro _ h; cases h
  | cons x M ih =>
   intro hM hq
   obtain ⟨i',d',o'⟩:=x
   unfold avB at hq
   have ih':=ih fun x hx =>hM x (List.mem_cons_of_mem _ hx)
   split at hq
   ·rename_i hr
    split at hq
    ·cases hq
     obtain ⟨h1,h2⟩:=(agI hL).1 (hM _ (List.mem_cons_self ..))
     exact ⟨h1,(amF h h1 h2).1 hr⟩
    ·exact ih' hq
   ·exact ih' hq
 obtain ⟨h1,h2⟩:=key L (fun _ h =>h) hf
 exact ⟨h1,aCq hL hok h h2,h2⟩
theorem aso (hL:L=ay7 ops.toList 0) {i0:Nat}:∀ {M:Pre} {acc:Nat},(∀ x∈M,x∈L)→(∀ k,ane acc k=true→Desc ops i0 k)→∀ k,ane (aob M acc) k=true→Desc ops i0 k
 | [],_,_,h,k,hk =>h k hk
 | (i,d,o)::M,acc,hM,h,k,hk =>by
  have hM':∀ x∈M,x∈L:=fun x hx =>hM x (List.mem_cons_of_mem _ hx)
  unfold aob at hk
  split at hk
  ·exact aso hL hM' h k hk
  ·rename_i hb
   rw [adf] at hk
   refine aso hL hM' (fun k hk =>?_) k hk
   rw [aAO,asA,Bool.or_eq_true] at hk
   rcases hk with hk | hk
   ·exact h k hk
   ·have e:i=k:=by simpa using hk
    subst e
    obtain ⟨j,hj1,hj2⟩:=aFW hb
    obtain ⟨h1,h2⟩:=(agI hL).1 (hM _ (List.mem_cons_self ..))
    rw [h2] at hj1
    obtain ⟨e,he,hbe,hon⟩:=aiF.1 hj1
    exact .step h1 (by simpa using he) hbe (by rw [hon]; exact h j hj2)
end
section
variable (K:KT) (P:Program) (call:ak0 K) {α:Type} (ops:Array Oper) (nt:Nat)
def fkI (R:aaZ) (n:Nat) (Z H:KT.H K) (op:Op):Option (((Nat×Nat)×(Nat×Int×Nat)×IntKind)×Operand):=match op with
 | .indexAddr T x y =>match evX K P R n Z H (.indexAddr T x y) with
  | some _ =>none
  | none =>match aD9 P R T x y with
   | some q =>some (q,y)
   | none =>none
 | _ =>none
theorem aIM {R:aaZ} {n:Nat} {Z H:KT.H K} {op:Op} {q:(Nat×Nat)×(Nat×Int×Nat)×IntKind} {y:Operand} (h:fkI K P R n Z H op=some (q,y)):∃ T x,op=.indexAddr T x y∧aD9 P R T x y=some q:=by
 unfold fkI at h
 split at h
 ·split at h
  ·cases h
  ·split at h
   ·rename_i hq; cases h; exact ⟨_,_,rfl,hq⟩
   ·cases h
 ·cases h
def rtE (C:aaZ) (Z:KT.H K):List Oper→aaZ→Nat→KT.H K→(aaZ→Nat→KT.H K→Option α)→Option α
 | [],R,n,H,k =>k R n H
 | o::l,R,n,H,k =>match aFf nt o.dst && atN C o.dst with
  | true =>byG ops R o.guard (fun R =>match fkI K P (R++C) n Z H o.op with
   | some ((q,(len,j,sz),kk),y) =>asb j (fun i =>rtE C Z l (aqF (aHw R y kk i) o.dst (.ptr q.1 (q.2+i*sz))) n H k) len
   | none =>stp K P call o (R++C) n Z H fun n' H' v =>rtE C Z l (aqF R o.dst v) n' H' k) (fun R =>rtE C Z l (aqF R o.dst (.c undef)) n H k)
  | false =>none
def aHx:Op→Bool
 | .move _ =>true
 | .assign _ =>true
 | .nilCheck _ =>true
 | .pick .. =>true
 | .binOp .. =>true
 | .unOp .. =>true
 | .convert .. =>true
 | .extract .. =>true
 | .fieldAddr .. =>true
 | .makeFunc .. =>true
 | .indexAddr .. =>true
 | .makeInterface .. =>true
 | .build .. =>true
 | .slice .. =>true
 | .field .. =>true
 | .call c =>match c.callee with
  | .builtin .len =>true
  | .builtin .min =>true
  | .builtin .max =>true
  | _ =>false
 | _ =>false
def aIo:Op→Bool
 | .load .. =>true
 | _ =>false
def aJU {ι:Type}:List ι→Option ι
 | [i] =>some i
 | _ =>none
def aCp (R:aaZ) (n:Nat) (Z H:KT.H K):V→Option (Nat×KT.H K)
 | .ptr id _ =>match get H id with
  | some (.cells fs) =>match abW K R n Z H with
   | true =>match aHP K fs.length n H id 0 with
    | some (_,H',_) =>some (n+fs.length,H')
    | none =>none
   | false =>none
  | _ =>none
 | _ =>none
def aFA (R:aaZ) (n:Nat) (Z H:KT.H K) (u:V):Option (Nat×KT.H K):=match aCp K R n Z H u with
 | some r =>some r
 | none =>match azs K H u with
  | some H1 =>aCp K R n Z H1 u
  | none =>none
structure Rd where
 L:Nat
 D:Nat
 T:TypeId
 u:V
 v:V
def aJu:V→V→Option (List Gd)
 | .i k x,w =>match w with
  | .i k' y =>match aro k k' with
   | true =>some [⟨x=y,inferInstance⟩]
   | false =>none
  | _ =>none
 | .l k x,w =>match w with
  | .l k' y =>match aro k k' with
   | true =>some [⟨x=y,inferInstance⟩]
   | false =>none
  | _ =>none
 | .b x,w =>match w with
  | .b y =>some [⟨x=y,inferInstance⟩]
  | _ =>none
 | .sl a,w =>match w with
  | .sl b =>match Nat.beq a b with
   | true =>some []
   | false =>none
  | _ =>none
 | .ptr a o,w =>match w with
  | .ptr b q =>match Nat.beq a b && Nat.beq o q with
   | true =>some []
   | false =>none
  | _ =>none
 | .mc a,w =>match w with
  | .mc b =>match Nat.beq a b with
   | true =>some []
   | false =>none
  | _ =>none
 | .c (.slice none 0 0),w =>match w with
  | .c (.slice none 0 0) =>some []
  | _ =>none
 | .ifc t (.ptr a o),w =>match w with
  | .ifc t' (.ptr b q) =>match Nat.beq t t' && (Nat.beq a b && Nat.beq o q) with
   | true =>some []
   | false =>none
  | _ =>none
 | _,_ =>none
def aJt:List V→List V→Option (List Gd)
 | [],[] =>some []
 | v::l,w::m =>match aJu v w with
  | some g =>match aJt l m with
   | some gs =>some (g++gs)
   | none =>none
  | none =>none
 | _,_ =>none
def eqG:V→V→Option (List Gd)
 | .agg l,w =>match w with
  | .agg m =>aJt l m
  | _ =>none
 | v,w =>aJu v w
theorem aAd {v w:V} {gs:List Gd} (h:aJu v w=some gs) (hg:∀ g∈gs,g.P) (ρ:Env):aau ρ v=aau ρ w:=by
 unfold aJu at h
 split at h
 ·split at h
  ·split at h
   ·rename_i e; cases h; rw [ag4 e]; simp only [aau]; congr 1; exact hg _ (List.mem_singleton.2 rfl)
   ·cases h
  ·cases h
 ·split at h
  ·split at h
   ·rename_i e; cases h; rw [ag4 e]; simp only [aau]; congr 1; exact hg _ (List.mem_singleton.2 rfl)
   ·cases h
  ·cases h
 ·split at h
  ·cases h; simp only [aau]; congr 1; exact hg _ (List.mem_singleton.2 rfl)
  ·cases h
 ·split at h
  ·split at h
   ·rename_i e; rw [Nat.eq_of_beq_eq_true e]
   ·cases h
  ·cases h
 ·split at h
  ·split at h
   ·rename_i e
    simp only [Bool.and_eq_true] at e
    rw [Nat.eq_of_beq_eq_true e.1,Nat.eq_of_beq_eq_true e.2]
   ·cases h
  ·cases h
 ·split at h
  ·split at h
   ·rename_i e; rw [Nat.eq_of_beq_eq_true e]
   ·cases h
  ·cases h
 ·split at h
  ·cases h; rfl
  ·cases h
 ·split at h
  ·split at h
   ·rename_i e
    simp only [Bool.and_eq_true] at e
    rw [Nat.eq_of_beq_eq_true e.1,Nat.eq_of_beq_eq_true e.2.1,Nat.eq_of_beq_eq_true e.2.2]
   ·cases h
  ·cases h
 ·cases h
theorem aAc:∀ {l m:List V} {gs:List Gd},aJt l m=some gs→(∀ g∈gs,g.P)→∀ ρ:Env,aag ρ l=aag ρ m
 | [],[],_,_,_,_ =>rfl
 | v::l,w::m,gs,h,hg,ρ =>by
  unfold aJt at h
  split at h
  ·rename_i g h1
   split at h
   ·rename_i gs' h2
    cases h
    simp only [aag]
    rw [aAd h1 (fun g hg' =>hg g (List.mem_append_left _ hg')) ρ,aAc h2 (fun g hg' =>hg g (List.mem_append_right _ hg')) ρ]
   ·cases h
  ·cases h
 | [],_::_,_,h,_,_ =>by cases h
 | _::_,[],_,h,_,_ =>by cases h
theorem aIR {v w:V} {gs:List Gd} (h:eqG v w=some gs) (hg:∀ g∈gs,g.P) (ρ:Env):aau ρ v=aau ρ w:=by
 unfold eqG at h
 split at h
 ·split at h
  ·simp only [aau,aAc h hg ρ]
  ·cases h
 ·exact aAd h hg ρ
def auV (i:Nat) (H:KT.H K):List Rd→Option (List Gd)
 | [] =>some []
 | e::S =>match ane e.D i with
  | true =>auV i H S
  | false =>match ldV K P H e.T e.u with
   | some v =>match eqG e.v v with
    | some g =>match auV i H S with
     | some gs =>some (g++gs)
     | none =>none
    | none =>none
   | none =>none
def aII (o:Option (List Gd)) (k:Option α):Option α:=match o with
 | some gs =>gds gs k
 | none =>none
open Classical in
noncomputable def agr {α:Type} (x y:Option α):Option α:=if x=y then x else none
theorem aDn {α:Type} {x y:Option α} {o:α} (h:agr x y=some o):x=some o∧y=some o:=by
 unfold agr at h
 split at h
 ·rename_i e; exact ⟨h,e▸h⟩
 ·cases h
theorem asJ {α:Type} (x:Option α):agr x x=x:=if_pos rfl
noncomputable def aCW {α ι:Type} (g:ι→Option α):List ι→Option α
 | [] =>none
 | i::l =>match l with
  | [] =>g i
  | _::_ =>agr (g i) (aCW g l)
theorem aqW {α ι:Type} {g:ι→Option α} {o:α}:∀ {l:List ι},aCW g l=some o→∀ i∈l,g i=some o
 | [],h,_,_ =>by cases h
 | [j],h,i,hi =>by obtain rfl:=List.mem_singleton.1 hi; exact h
 | j::k::l,h,i,hi =>by
  obtain ⟨h1,h2⟩:=aDn (show agr (g j) (aCW g (k::l))=some o from h)
  rcases List.mem_cons.1 hi with e | e
  ·subst e; exact h1
  ·exact aqW h2 i e
noncomputable def atE (C:aaZ) (Z:KT.H K) (L:Pre):Nat→Nat→List Rd→aaZ→Nat→KT.H K→(aaZ→Nat→KT.H K→Option α)→Option α
 | 0,m,_,R,n,H,k =>match akv m L with
  | [] =>k R n H
  | _::_ =>none
 | f+1,m,S,R,n,H,k =>match avB aHx m L with
  | some (i,o) =>match aFf nt o.dst && atN C o.dst && awS o with
    | true =>byG ops R o.guard (fun R =>match evX K P (R++C) n Z H o.op with
     | some (gs,n',H',v) =>gds gs (aek (Nat.lor m (Nat.pow 2 i)) fun m' =>atE C Z L f m' S (aqF R o.dst v) n' H' k)
     | none =>match o.op with
      | .indexAddr T x y =>match aD9 P (R++C) T x y with
       | some (q,(len,j,sz),kk) =>asb j (fun q' =>match atN C o.dst with
        | true =>aek (Nat.lor m (Nat.pow 2 i)) fun m' =>atE C Z L f m' S (aqF (aHw R y kk q') o.dst (.ptr q.1 (q.2+q'*sz))) n H k
        | false =>none) len
       | none =>match aGV K P (R++C) (H++Z) T x y with
        | some (q,(len,j,sz),kk) =>asb j (fun q' =>match atN C o.dst with
         | true =>aek (Nat.lor m (Nat.pow 2 i)) fun m' =>atE C Z L f m' S (aqF (aHw R y kk q') o.dst (.ptr q.1 (q.2+q'*sz))) n H k
         | false =>none) len
        | none =>none
      | _ =>none) (fun R =>aek (Nat.lor m (Nat.pow 2 i)) fun m' =>atE C Z L f m' S (aqF R o.dst (.c undef)) n H k)
    | false =>none
  | none =>match avB aIo m L with
   | some (i,o) =>match aFf nt o.dst && atN C o.dst && awS o && Nat.ble (afl Z) n with
     | true =>byG ops R o.guard (fun R =>match o.op with
      | .load T x =>match evO (R++C) x with
       | some u =>match aFA K (R++C) n Z H u with
        | some (n1,H1) =>match ldV K P (H1++Z) T u with
         | some v =>match Nat.ble (ai4 u) n1 && Nat.ble (ai4 v) n1 with
          | true =>aek (aob L (Nat.pow 2 i)) fun D =>aek (Nat.lor m (Nat.pow 2 i)) fun m' =>atE C Z L f m' (⟨i,D,T,u,v⟩::S) (aqF R o.dst v) n1 H1 k
          | false =>none
         | none =>none
        | none =>match ldV K P (H++Z) T u with
         | some v =>match Nat.ble (ai4 u) n && Nat.ble (ai4 v) n with
          | true =>aek (aob L (Nat.pow 2 i)) fun D =>aek (Nat.lor m (Nat.pow 2 i)) fun m' =>atE C Z L f m' (⟨i,D,T,u,v⟩::S) (aqF R o.dst v) n H k
          | false =>none
         | none =>match aJU (akv m L) with
          | some _ =>stp K P call o (R++C) n Z H fun n' H' v =>aII (auV K P i (H'++Z) S) (aek (Nat.lor m (Nat.pow 2 i)) fun m' =>atE C Z L f m' S (aqF R o.dst v) n' H' k)
          | none =>none
       | none =>none
      | _ =>none) (fun R =>aek (Nat.lor m (Nat.pow 2 i)) fun m' =>atE C Z L f m' S (aqF R o.dst (.c undef)) n H k)
     | false =>none
   | none =>aCW (fun x =>match aFf nt x.2.dst && atN C x.2.dst && Nat.ble (afl Z) n with
      | true =>byG ops R x.2.guard (fun R =>stp K P call x.2 (R++C) n Z H fun n' H' v =>aII (auV K P x.1 (H'++Z) S) (aek (Nat.lor m (Nat.pow 2 x.1)) fun m' =>atE C Z L f m' S (aqF R x.2.dst v) n' H' k)) (fun R =>aek (Nat.lor m (Nat.pow 2 x.1)) fun m' =>atE C Z L f m' S (aqF R x.2.dst (.c undef)) n H k)
      | false =>none) (akv m L)
end
section
variable {K:KT} {P:Program} {call:ak0 K} {α:Type} {ops:Array Oper} {nt n B:Nat} {W:World} {R C:aaZ} {Z H:KT.H K} {Q:Exit→Act→World→Prop} {F:aad} {out:α} {ρ:Env}
def KOk (K:KT) (Q:Exit→Act→World→Prop) (nt B:Nat) (W:World) (C:aaZ) (Z:KT.H K) (F:aad) (out:α) (e:Exit) (ρ:Env) (n:Nat) (k:aaZ→Nat→KT.H K→Option α):Prop :=
 ∀ ρ' R' n' H',aay n ρ ρ'→n≤n'→k R' n' H'=some out→ET Q nt B W e (dR ρ' (R'++C)) (dS K ρ' Z H' F)
theorem KOk.from {e:Exit} {ρ':Env} {n':Nat} {k:aaZ→Nat→KT.H K→Option α} (h:KOk K Q nt B W C Z F out e ρ n k) (ha:aay n ρ ρ') (hn:n≤n'):KOk K Q nt B W C Z F out e ρ' n' k :=
 fun ρ'' R' n'' H' ha' hn' hk =>h ρ'' R' n'' H' (ha.trans ha' hn) (by omega) hk
theorem awl {r:Option Nat} (hc:akD K P B W call):∀ {l:List Oper} {ρ:Env} {R:aaZ} {n:Nat} {H:KT.H K} {k:aaZ→Nat→KT.H K→Option α},rtE K P call ops nt C Z l R n H k=some out→KOk K Q nt B W C Z F out .normal ρ n k →
  RT r P ops Q nt B W l (dR ρ (R++C)) (dS K ρ Z H F)
 | [],ρ,R,n,H,k,h,hk =>aHq (hk ρ R n H (aay.refl _ _) (Nat.le_refl _) h)
 | o::l,ρ,R,n,H,k,h,hk =>fun a w s =>by
  unfold rtE at h
  split at h
  ·rename_i hd
   simp only [Bool.and_eq_true] at hd
   obtain ⟨R',r',h1 | h1⟩:=asx h s.regs
   ·obtain ⟨hg,h2⟩:=h1
    split at h2
    ·rename_i q len j sz kk y hf
     obtain ⟨T,x,hop,hfk⟩:=aIM K P hf
     obtain ⟨i,hm,hj,h3⟩:=ais h2
     obtain ⟨u,hu,hden⟩:=axe (ρ:=ρ) hfk
     rw [hj] at hden
     have r2:=auZ hu hden r'
     obtain ⟨id,o'⟩:=q
     have hrun:(execOp a.eval o).run P w=.ok (.value (aau ρ (.ptr id (o'+i*sz)))) w:=by
      obtain ⟨d,op,ty,ps,af,g⟩:=o
      simp only at hop
      subst hop
      exact avC hfk r' hm hj w
     unfold wpListIn
     rw [if_pos (hg.spec r')]
     refine aoH (C:=fun (_:Unit) w' =>Cls B W (dS K ρ Z H F) w') (v:=fun _ =>aau ρ (.ptr id (o'+i*sz))) (by rw [hrun]; exact ⟨(),rfl,s.cls⟩) fun _ w' hw' =>?_
     exact awl (r:=r) hc h3 hk _ _ (hw'.st (aeR hd.2▸aeQ hd.1 a r2))
    ·exact aE3 (aDG hc h2) hd.1 hg (fun ρ' n' H' v ha hn hx =>by rw [aeR hd.2]; exact awl hc hx (hk.from ha hn)) a w ⟨r',s.below,s.lo,s.sat⟩
   ·have h3:=awl (r:=r) hc h1.2 hk
    rw [← aeR hd.2] at h3
    have:=aE4 (r:=r) (P:=P) (Q:=Q) h1.1 (aeQ (ρ:=ρ) (v:=.c undef) hd.1) h3
    exact this a w ⟨r',s.below,s.lo,s.sat⟩
  ·cases h
theorem azz {ι:Type} {l:List ι} {i:ι} (h:aJU l=some i):l=[i]:=by
 unfold aJU at h; split at h
 ·cases h; rfl
 ·cases h
theorem awR {R:aaZ} {n n1:Nat} {Z H H1:KT.H K} {u:V} (h:aCp K R n Z H u=some (n1,H1)) {a:Act} {w:World} (s:Sta nt B W (dR ρ R) (dS K ρ Z H F) a w) :
  n≤n1∧afl Z≤n∧∃ ρ',aay n ρ ρ'∧Sta nt B W (dR ρ' R) (dS K ρ' Z H1 F) a w:=by
 unfold aCp at h
 split at h
 ·rename_i id o
  split at h
  ·rename_i fs hg
   split at h
   ·rename_i hB
    simp only [Bool.and_eq_true,abW] at hB
    obtain ⟨⟨b1,b2⟩,b3⟩:=hB
    have b2':=Nat.le_of_ble_eq_true b2
    split at h
    ·rename_i ch H' l hop
     cases h
     obtain ⟨ρ',⟨ha,_⟩,hs,_⟩:=arM (X:=fun ρ =>tl K Z F ρ) (fun _ ρ ρ' ha =>acT b2' ha) hop s.sat
     exact ⟨Nat.le_add_right ..,b2',ρ',ha,by rw [← abU ha R (Nat.le_of_ble_eq_true b1)]; exact s.regs,s.below,s.lo,hs⟩
    ·cases h
   ·cases h
  ·cases h
 ·cases h
theorem aCo {R:aaZ} {n n1:Nat} {Z H H1:KT.H K} {u:V} (h:aFA K R n Z H u=some (n1,H1)) {a:Act} {w:World} (s:Sta nt B W (dR ρ R) (dS K ρ Z H F) a w) :
  n≤n1∧afl Z≤n∧∃ ρ',aay n ρ ρ'∧Sta nt B W (dR ρ' R) (dS K ρ' Z H1 F) a w:=by
 unfold aFA at h
 split at h
 ·rename_i h1; cases h; exact awR h1 s
 ·split at h
  ·rename_i hop; exact awR h ⟨s.regs,s.below,s.lo,arN hop s.sat⟩
  ·cases h
def aiU (P:Program) (ρ:Env) (e:Rd) (w:World):Prop:=(Instr.loadAt e.T (aau ρ e.u)).run P w=.ok (aau ρ e.v) w
theorem aDZ {H:KT.H K} {T:TypeId} {u v:V} (h:ldV K P H T u=some v) {w:World} {X:List aad} (s:Sat B w (dH K ρ H++X)):(Instr.loadAt T (aau ρ u)).run P w=.ok (aau ρ v) w:=by
 unfold ldV at h
 split at h
 ·rename_i id o'
  split at h
  ·rename_i hT
   exact ajs hT (awu h s)
  ·rename_i k hT
   simp only [Option.map_eq_some_iff] at h
   obtain ⟨l,hl,rfl⟩:=h
   obtain ⟨h1,h2⟩:=awt hl s
   exact aj0 hT (by rw [aaR]; simpa using h1) h2 rfl
  ·cases h
 ·cases h
theorem arv {i:Nat} {H:KT.H K}:∀ {S:List Rd} {gs:List Gd},auV K P i H S=some gs→(∀ g∈gs,g.P)→(∀ e∈S,∀ j,ane e.D j=true→Desc ops e.L j)→∀ {w:World} {X:List aad},Sat B w (dH K ρ H++X)→∀ e∈S,¬ Desc ops e.L i→aiU P ρ e w
 | [],_,_,_,_,_,_,_,e,he,_ =>by cases he
 | e0::S,gs,h,hg,hD,w,X,s,e,he,hd =>by
  have hD':∀ e∈S,∀ j,ane e.D j=true→Desc ops e.L j:=fun e he =>hD e (List.mem_cons_of_mem _ he)
  unfold auV at h
  split at h
  ·rename_i hin
   rcases List.mem_cons.1 he with e1 | e1
   ·subst e1
    exact absurd (hD e (List.mem_cons_self ..) i hin) hd
   ·exact arv h hg hD' s e e1 hd
  ·split at h
   ·rename_i v hv
    split at h
    ·rename_i g hgq
     split at h
     ·rename_i gs' hr
      cases h
      rcases List.mem_cons.1 he with e1 | e1
      ·subst e1
       unfold aiU
       rw [aIR hgq (fun g hg' =>hg g (List.mem_append_left _ hg')) ρ]
       exact aDZ hv s
      ·exact arv hr (fun g hg' =>hg g (List.mem_append_right _ hg')) hD' s e e1 hd
     ·cases h
    ·cases h
   ·cases h
theorem aF5 {α:Type} {o:Option (List Gd)} {k:Option α} {out:α} (h:aII o k=some out):∃ gs,o=some gs∧(∀ g∈gs,g.P)∧k=some out:=by
 unfold aII at h
 split at h
 ·rename_i gs; exact ⟨gs,rfl,al0 h⟩
 ·cases h
theorem amk {L:Pre} (hL:L=ay7 ops.toList 0) (hok:okM ops L=true) (hc:akD K P B W call):∀ {f m:Nat} {listed:Array Bool} {S:List Rd} {ρ:Env} {R:aaZ} {n:Nat} {H:KT.H K} {k:aaZ→Nat→KT.H K→Option α} {Ob:Nat→World→World→Prop},RelM ops m listed→ajP ops listed→(∀ e∈S,∀ j,ane e.D j=true→Desc ops e.L j)→atE K P call ops nt C Z L f m S R n H k=some out→KOk K Q nt B W C Z F out .normal ρ n k →
  (∀ j w,Ob j w w)→(∀ e∈S,ai4 e.u≤n∧ai4 e.v≤n)→(∀ j w w',(∀ e∈S,¬ Desc ops e.L j→aiU P ρ e w')→Ob j w w')→∀ a w,Sta nt B W (dR ρ (R++C)) (dS K ρ Z H F) a w→ahu P ops Q Ob f listed a w
 | 0,m,listed,S,ρ,R,n,H,k,Ob,hrel,hcl,hD,h,hk,hrf,hS,hΦ,a,w,s =>by
  unfold atE at h
  split at h
  ·rename_i hr
   refine ⟨?_,hk ρ R n _ (aay.refl _ _) (Nat.le_refl _) h a w s⟩
   refine List.eq_nil_iff_forall_not_mem.2 fun i hi =>?_
   have hlt:=List.mem_range.1 (List.mem_filter.1 hi).1
   have:=(ahP hrel (i:=i) (o:=ops[i]) (L:=L) fun i d o hm =>(agI hL).1 hm).2 ⟨⟨_,(agI hL).2 ⟨Array.getElem?_eq_getElem hlt,rfl⟩⟩,hi⟩
   rw [hr] at this; cases this
  ·cases h
 | f+1,m,listed,S,ρ,R,n,H,k,Ob,hrel,hcl,hD,h,hk,hrf,hS,hΦ,a,w,s =>by
  have move:∀ {ρ':Env} {n':Nat},aay n ρ ρ'→n≤n'→(∀ e∈S,ai4 e.u≤n'∧ai4 e.v≤n')∧(∀ e∈S,∀ w,aiU P ρ e w↔aiU P ρ' e w):=fun ha hn =>⟨fun e he =>⟨Nat.le_trans (hS e he).1 hn,Nat.le_trans (hS e he).2 hn⟩,fun e he w =>by
   unfold aiU; rw [abf ha _ (hS e he).1,abf ha _ (hS e he).2]⟩
  have hΦ':∀ {ρ':Env} {n':Nat},aay n ρ ρ'→n≤n'→(∀ j w w',(∀ e∈S,¬ Desc ops e.L j→aiU P ρ' e w')→Ob j w w'):=fun ha hn j w w' h =>hΦ j w w' fun e he hd =>((move ha hn).2 e he w').2 (h e he hd)
  have hlt:∀ {i:Nat},i∈Region.ready .any ops listed→i<ops.size:=fun hi =>List.mem_range.1 (List.mem_filter.1 hi).1
  have op1:∀ {i:Nat} {o:Oper} {R':aaZ},ops[i]?=some o→i∈Region.ready .any ops listed→aFf nt o.dst=true→atN C o.dst=true→afl Z≤n→ajN ops (dR ρ (R'++C)) o.guard true→Regs nt a (dR ρ (R'++C)) →
    (stp K P call o (R'++C) n Z H fun n' H' v =>aII (auV K P i (H'++Z) S) (aek (Nat.lor m (Nat.pow 2 i)) fun m' =>atE K P call ops nt C Z L f m' S (aqF R' o.dst v) n' H' k))=some out →
    wpOpIn (rf none) 0 P ops (NP Q) i (fun a' w' =>Ob i w w'∧ahu P ops Q Ob f (listed.setIfInBounds i true) a' w') a w:=by
   intro i o R' ho him hp hni hZ h0 r' h1
   unfold wpOpIn
   simp only [ho]
   rw [if_pos (h0.spec r')]
   refine aoH (aDG hc h1 F ρ a w ⟨r',s.below,s.lo,s.sat⟩) fun x w' ⟨⟨ha,hn,hR,hx⟩,hw'⟩ =>?_
   obtain ⟨gs,hrc,hgs,hx⟩:=aF5 hx
   rw [adf] at hx
   have r2:Regs nt a (dR x.ρ (R'++C)):=hR▸r'
   refine ⟨hΦ' ha hn i w w' (arv hrc hgs hD (adQ hw'.2.2)),?_⟩
   exact amk hL hok hc (hrel.set (hlt him)) (hcl.set him) hD hx (hk.from ha hn) hrf (move ha hn).1 (hΦ' ha hn) _ _ (hw'.st (aeR hni▸aeQ hp a r2))
  unfold atE at h
  split at h
  ·rename_i i o hi
   obtain ⟨ho,hB,him⟩:=aqV hL hok hrel hi
   have hcl':=hcl.set him
   have hrel':=hrel.set (hlt him)
   split at h
   ·rename_i hd
    simp only [Bool.and_eq_true] at hd
    obtain ⟨R',r',h1 | h1⟩:=asx h s.regs
    ·obtain ⟨h0,h1⟩:=h1
     split at h1
     ·rename_i gs n' H' v he
      obtain ⟨hg,h2⟩:=al0 h1
      rw [adf] at h2
      obtain ⟨ρ',⟨q1,q2,q3⟩,qz,q4,q5⟩:=aD8 he hg s.sat r'
      refine ajM ho (hrf i) hB hcl ⟨.inl ⟨h0.spec r',fun w _ =>q5 w⟩,fun w =>agt hd.2 w _⟩ ?_
      have r2:Regs nt a (dR ρ' (R'++C)):=q3▸r'
      exact amk hL hok hc hrel' hcl' hD h2 (hk.from q1 q2) hrf (move q1 q2).1 (hΦ' q1 q2) _ _ ⟨aeR hd.1.2▸aeQ hd.1.1 a r2,s.below,s.lo,q4 w s.sat⟩
     ·split at h1
      ·rename_i T x y hop
       split at h1
       ·rename_i q len j sz kk hfk
        obtain ⟨q',hm,hj,h2⟩:=ais h1
        rw [hd.1.2] at h2
        simp only [adf] at h2
        obtain ⟨u,hu,hden⟩:=axe (ρ:=ρ) hfk
        rw [hj] at hden
        have r2:=auZ hu hden r'
        obtain ⟨id,o'⟩:=q
        have hrun:∀ w',(execOp a.eval o).run P w'=.ok (.value (aau ρ (.ptr id (o'+q'*sz)))) w':=fun w' =>by
         obtain ⟨d,op,ty,ps,af,g⟩:=o
         simp only at hop
         subst hop
         exact avC hfk r' hm hj w'
        refine ajM ho (hrf i) hB hcl ⟨.inl ⟨h0.spec r',fun w _ =>hrun w⟩,fun w =>agt hd.2 w _⟩ ?_
        exact amk hL hok hc hrel' hcl' hD h2 hk hrf hS hΦ _ _ ⟨aeR hd.1.2▸aeQ hd.1.1 a r2,s.below,s.lo,s.sat⟩
       ·split at h1
        ·rename_i q len j sz kk hfk
         obtain ⟨q',hm,hj,h2⟩:=ais h1
         rw [hd.1.2] at h2
         simp only [adf] at h2
         obtain ⟨u,hu,hden⟩:=aCR (ρ:=ρ) hfk
         rw [hj] at hden
         have r2:=auZ hu hden r'
         obtain ⟨id,o'⟩:=q
         have hrun:∀ w',(execOp a.eval o).run P w'=.ok (.value (aau ρ (.ptr id (o'+q'*sz)))) w':=fun w' =>by
          obtain ⟨d,op,ty,ps,af,g⟩:=o
          simp only at hop
          subst hop
          exact az9 hfk (adQ s.sat) r' hm hj w'
         refine ajM ho (hrf i) hB hcl ⟨.inl ⟨h0.spec r',fun w _ =>hrun w⟩,fun w =>agt hd.2 w _⟩ ?_
         exact amk hL hok hc hrel' hcl' hD h2 hk hrf hS hΦ _ _ ⟨aeR hd.1.2▸aeQ hd.1.1 a r2,s.below,s.lo,s.sat⟩
        ·cases h1
      ·cases h1
    ·obtain ⟨h0,h1⟩:=h1
     rw [adf] at h1
     refine ajM ho (hrf i) hB hcl ⟨.inr ⟨h0.spec r',rfl⟩,fun w =>agt hd.2 w _⟩ ?_
     exact amk hL hok hc hrel' hcl' hD h1 hk hrf hS hΦ _ _ ⟨aeR hd.1.2▸aeQ (ρ:=ρ) (v:=.c undef) hd.1.1 a r',s.below,s.lo,s.sat⟩
   ·cases h
  ·split at h
   ·rename_i i o hi
    obtain ⟨ho,hB,him⟩:=aqV hL hok hrel hi
    have hcl':=hcl.set him
    have hrel':=hrel.set (hlt him)
    split at h
    ·rename_i hd
     simp only [Bool.and_eq_true] at hd
     obtain ⟨R',r',h1 | h1⟩:=asx h s.regs
     ·obtain ⟨h0,h1⟩:=h1
      split at h1
      ·rename_i T x hop
       split at h1
       ·rename_i u hx
        have key:∀ {ρ:Env} {n:Nat} {H:KT.H K} {v:V},KOk K Q nt B W C Z F out .normal ρ n k→(∀ e∈S,ai4 e.u≤n∧ai4 e.v≤n)→(∀ j w w',(∀ e∈S,¬ Desc ops e.L j→aiU P ρ e w')→Ob j w w')→Sta nt B W (dR ρ (R'++C)) (dS K ρ Z H F) a w→ldV K P (H++Z) T u=some v→(match Nat.ble (ai4 u) n && Nat.ble (ai4 v) n with
          | true =>aek (aob L (Nat.pow 2 i)) fun D =>aek (Nat.lor m (Nat.pow 2 i)) fun m' =>atE K P call ops nt C Z L f m' (⟨i,D,T,u,v⟩::S) (aqF R' o.dst v) n H k
          | false =>none)=some out→ahu P ops Q Ob (f+1) listed a w:=by
         intro ρ n H v hk hS hΦ s hv h1
         split at h1
         ·rename_i htop
          simp only [adf] at h1
          simp only [Bool.and_eq_true] at htop
          have ht1:=Nat.le_of_ble_eq_true htop.1
          have ht2:=Nat.le_of_ble_eq_true htop.2
          have hH:aiU P ρ ⟨i,aob L (Nat.pow 2 i),T,u,v⟩ w:=aDZ hv (adQ s.sat)
          refine aun (Ob:=fun j w w' =>Ob j w w'∧(¬ Desc ops i j→aiU P ρ ⟨i,aob L (Nat.pow 2 i),T,u,v⟩ w→aiU P ρ ⟨i,aob L (Nat.pow 2 i),T,u,v⟩ w')) (fun _ _ _ h =>h.1) _ _ _ _ ?_
          refine aAX (Φ:=aiU P ρ ⟨i,aob L (Nat.pow 2 i),T,u,v⟩) (v:=aau ρ v) ho (fun w =>⟨hrf i w,fun _ h =>h⟩) hB hcl (fun j w w' h =>h.2) ⟨.inl ⟨h0.spec r',fun w' hs =>?_⟩,fun w =>agt hd.1.2 w _⟩ hH ?_
          ·have ex:=(aaH (ρ:=ρ) hx).eval s.regs
           obtain ⟨d,op,ty,ps,af,g⟩:=o
           simp only at hop
           subst hop
           simp only [execOp,ex]
           rw [aaa hs]; rfl
          ·refine amk hL hok hc hrel' hcl' (fun e he =>?_) h1 hk (fun j w =>⟨hrf j w,fun _ h =>h⟩) (fun e he =>?_) (fun j w w' hs =>⟨hΦ j w w' fun e he =>hs e (List.mem_cons_of_mem _ he),fun hn _ =>hs ⟨i,aob L (Nat.pow 2 i),T,u,v⟩ (List.mem_cons_self ..) hn⟩) _ _ ⟨aeR hd.1.1.2▸aeQ hd.1.1.1 a s.regs,s.below,s.lo,s.sat⟩
           ·rcases List.mem_cons.1 he with e1 | e1
            ·subst e1
             exact aso hL (fun _ h =>h) fun k hk =>by
              rw [asA] at hk
              have:i=k:=by simpa using hk
              subst this
              exact .self
            ·exact hD e e1
           ·rcases List.mem_cons.1 he with e1 | e1
            ·subst e1; exact ⟨ht1,ht2⟩
            ·exact hS e e1
         ·cases h1
        split at h1
        ·rename_i n1 H1 hop2
         obtain ⟨hn,hZ,ρ',ha,s'⟩:=aCo hop2 (a:=a) (w:=w) ⟨r',s.below,s.lo,s.sat⟩
         split at h1
         ·rename_i v hv
          exact key (hk.from ha hn) (move ha hn).1 (hΦ' ha hn) s' hv h1
         ·cases h1
        ·split at h1
         ·rename_i v hv
          exact key hk hS hΦ ⟨r',s.below,s.lo,s.sat⟩ hv h1
         ·split at h1
          ·rename_i i2 hi2
           have hr:=azz hi2
           have hone:∀ j,j∈Region.ready .any ops listed→j=i2.1:=fun j hj =>by
            have:=(ahP hrel (i:=j) (o:=ops[j]'(hlt hj)) (L:=L) fun i d o hm =>(agI hL).1 hm).2 ⟨⟨_,(agI hL).2 ⟨Array.getElem?_eq_getElem (hlt hj),rfl⟩⟩,hj⟩
            rw [hr] at this
            have:=List.mem_singleton.1 this
            exact congrArg Prod.fst this
           refine ⟨fun h0 =>(by rw [h0] at him; cases him),fun j hj =>?_⟩
           have e1:=hone j hj
           have e2:=hone i him
           obtain rfl:j=i:=e1.trans e2.symm
           exact op1 ho hj hd.1.1.1 hd.1.1.2 (Nat.le_of_ble_eq_true hd.2) h0 r' h1
          ·cases h1
       ·cases h1
      ·cases h1
     ·obtain ⟨h0,h1⟩:=h1
      rw [adf] at h1
      refine ajM ho (hrf i) hB hcl ⟨.inr ⟨h0.spec r',rfl⟩,fun w =>agt hd.1.2 w _⟩ ?_
      exact amk hL hok hc hrel' hcl' hD h1 hk hrf hS hΦ _ _ ⟨aeR hd.1.1.2▸aeQ (ρ:=ρ) (v:=.c undef) hd.1.1.1 a r',s.below,s.lo,s.sat⟩
    ·cases h
   ·have hmem:∀ {i:Nat} (hi:i∈Region.ready .any ops listed),(i,ops[i]'(hlt hi))∈akv m L:=fun {i} hi =>
     (ahP hrel (i:=i) (o:=ops[i]'(hlt hi)) (L:=L) fun i d o hm =>(agI hL).1 hm).2 ⟨⟨_,(agI hL).2 ⟨Array.getElem?_eq_getElem (hlt hi),rfl⟩⟩,hi⟩
    refine ⟨fun h0 =>?_,fun i hi =>?_⟩
    ·have e:akv m L=[]:=by
      refine List.eq_nil_iff_forall_not_mem.2 fun x hx =>?_
      have:=((ahP hrel (i:=x.1) (o:=x.2) (L:=L) fun i d o hm =>(agI hL).1 hm).1 hx).2
      rw [h0] at this; cases this
     rw [e] at h; cases h
    ·have h1:=aqW h _ (hmem hi)
     have ho:ops[i]?=some (ops[i]'(hlt hi)):=Array.getElem?_eq_getElem (hlt hi)
     split at h1
     ·rename_i hd
      simp only [Bool.and_eq_true] at hd
      obtain ⟨R',r',h2 | h2⟩:=asx h1 s.regs
      ·exact op1 ho hi hd.1.1 hd.1.2 (Nat.le_of_ble_eq_true hd.2) h2.1 r' h2.2
      ·unfold wpOpIn
       simp only [ho]
       rw [if_neg (by rw [h2.1.spec r']; exact Bool.false_ne_true)]
       have h3:=h2.2
       rw [adf] at h3
       exact ⟨fun _ _ =>trivial,hrf i w,amk hL hok hc (hrel.set (hlt hi)) (hcl.set hi) hD h3 hk hrf hS hΦ _ _ ⟨aeR hd.1.2▸aeQ (ρ:=ρ) (v:=.c undef) hd.1.1 a r',s.below,s.lo,s.sat⟩⟩
     ·cases h1
end
end
end Go.Proofs.YtidhehdanppcoaaGreat
