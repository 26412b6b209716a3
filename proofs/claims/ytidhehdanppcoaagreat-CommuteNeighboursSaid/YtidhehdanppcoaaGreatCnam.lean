/- The program's machines do what was said plainly,5: running a task: parts. The program's machines do what was said plainly,6: running a task: lines. The program's machines do what was said plainly,7: running a task. The program's machines do what was said plainly,8: workers. The program's machines do what was said plainly,9: the client; what workers and the client leave. What a step of a machine depends on,and what it changes. What a step depends on: machines that run others and touch no record. What is decoded is valid. -/
import Derived.Test.YtidhehdanppcoaaGreatCnal
import Derived.Test.YtidhehdanppcoaaGreatCnak
import Derived.Test.YtidhehdanppcoaaGreatCnai
set_option linter.all false
namespace Go.Proofs.YtidhehdanppcoaaGreat
section
open Go Go.RowKit
set_option maxRecDepth 100000
structure SOk (l:List Int):Prop where
 ne:l≠[]
 le:l.length≤999999999
section
variable {l:List Int}
theorem SOk.n (h:SOk l):wi (((l.length:Nat):Int)-1)=((l.length-1:Nat):Int):=by
 have h1:=List.length_pos_iff.2 h.ne
 have h2:=h.le
 rw [aaK (aao (by omega))]; omega
theorem SOk.a (h:SOk l):acg l ((l.length-1:Nat):Int)=aaC l:=by
 have h1:=List.length_pos_iff.2 h.ne
 have h2:l[l.length-1]?=some (l[l.length-1]'(by omega)):=List.getElem?_eq_getElem _
 simp only [acg,atL,aaC,Int.toNat_natCast,List.getLast?_eq_getElem?,h2]
 rfl
theorem SOk.g (h:SOk l):(0≤((l.length-1:Nat):Int)∧((l.length-1:Nat):Int)<((l.length:Nat):Int))=True:=by
 have h1:=List.length_pos_iff.2 h.ne
 exact eq_true ⟨by omega,by omega⟩
theorem SOk.g2 (h:SOk l):(0≤((l.length-1:Nat):Int)∧((l.length-1:Nat):Int)≤((l.length:Nat):Int))=True:=by
 have h1:=List.length_pos_iff.2 h.ne
 exact eq_true ⟨by omega,by omega⟩
theorem SOk.t (h:SOk l):l.take (((l.length-1:Nat):Int)).toNat=l.dropLast:=by
 rw [List.dropLast_eq_take]; simp
theorem SOk.s (h:SOk l) (y:Int):l.set (((l.length-1:Nat):Int)).toNat y=l.dropLast++[y]:=by
 obtain ⟨a,b,rfl⟩:∃ a b,l=a++[b]:=⟨l.dropLast,l.getLast h.ne,(List.dropLast_concat_getLast h.ne).symm⟩
 simp
end
section
variable [Tb] {e:EnvP} {o:OutV} {w ln id ch lv wt:Int} {st:List Int} {m:MV}
theorem anI {rs:List RecP} {t:Int} {r:RecP} (h:0≤t∧t<(rs.length:Int)):aab (rs.set t.toNat r) t=r:=aCH h
theorem au2 {rs:List RecP} {t:Int} (h:0≤t∧t<(rs.length:Int)):rs.set t.toNat (aab rs t)=rs:=by
 have h1:=adL (d:=(dfR 26:RecP)) (xs:=rs) h
 have h2:t.toNat<rs.length:=by omega
 refine List.ext_getElem? fun i =>?_
 by_cases hi:t.toNat=i
 ·subst hi
  rw [List.getElem?_set_self h2]
  exact h1.symm
 ·rw [List.getElem?_set_ne hi]
def agj (x:RecP) (p:List Ins):Int :=
 if x.waiting ≠ -1 then 1
 else if x.pc<0∨(p.length:Int)≤x.pc then 16
 else if (acB p x.pc).op=0 then 2
 else if (acB p x.pc).op=1 then 4
 else if (acB p x.pc).a<0∨(x.kids.length:Int)≤(acB p x.pc).a∨acg x.kids (acB p x.pc).a=-1 then 3
 else 9
theorem aqC {x:RecP} (h1:¬ x.prog<0) (h2:¬ (e.c.progs.length:Int)≤x.prog):e.prog x=atL [] e.c.progs x.prog:=by
 unfold EnvP.prog
 rw [if_neg (by omega)]
theorem agq {x:RecP} (h:x.prog<0∨(e.c.progs.length:Int)≤x.prog):e.prog x=[]:=by
 unfold EnvP.prog
 rw [if_pos h]
theorem aCr {x:RunV MV} (hS:SOk x.stack) (hT:0≤aaC x.stack∧aaC x.stack<(e.recs.length:Int)):afN x e=some ((agj (e.rc (aaC x.stack)) (e.prog (e.rc (aaC x.stack))),()),(x,e,())):=by
 unfold afN
 try simp only [tpI,tlI]
 simp only [hS.n,hS.a,hS.g,hT,and_self,if_true,au2 hT]
 show _=some ((agj (aab e.recs (aaC x.stack)) (e.prog (aab e.recs (aaC x.stack))),()),(x,e,()))
 generalize aab e.recs (aaC x.stack)=r
 by_cases h1:r.prog<0
 ·rw [agq (.inl h1)]
  simp only [h1,if_true,agj,List.length_nil]
  split
  ·rfl
  ·rw [if_pos (show r.pc<0∨((0:Nat):Int)≤r.pc by omega)]
   split
   ·rfl
   ·rw [if_pos (by omega)]
 by_cases h2:(e.c.progs.length:Int)≤r.prog
 ·rw [agq (.inr h2)]
  simp only [h1,h2,if_true,if_false,agj,List.length_nil]
  split
  ·rfl
  ·rw [if_pos (show r.pc<0∨((0:Nat):Int)≤r.pc by omega)]
   split
   ·rfl
   ·rw [if_pos (by omega)]
 rw [aqC h1 h2]
 generalize atL [] e.c.progs r.prog=p
 unfold agj
 rw [if_neg h1,if_neg h2]
 rw [if_pos (show 0≤r.prog∧r.prog<(e.c.progs.length:Int) by omega)]
 by_cases hw:r.waiting ≠ -1
 ·rw [if_pos hw,if_pos hw]
 rw [if_neg hw,if_neg hw]
 by_cases h3:r.pc<0
 ·rw [if_pos h3,if_pos (.inl h3)]
 by_cases h4:(p.length:Int)≤r.pc
 ·rw [if_neg h3,if_pos h4,if_pos (.inr h4)]
 rw [if_neg h3,if_neg h4,if_neg (show ¬ (r.pc<0∨(p.length:Int)≤r.pc) by omega)]
 have hp:0≤r.pc∧r.pc<(p.length:Int):=by omega
 rw [if_pos hp]
 by_cases c1:(acB p r.pc).op=0
 ·rw [if_pos c1,if_pos c1]
 rw [if_neg c1,if_neg c1,if_pos hp]
 by_cases c2:(acB p r.pc).op=1
 ·rw [if_pos c2,if_pos c2]
 rw [if_neg c2,if_neg c2,if_pos hp]
 by_cases h5:(acB p r.pc).a<0
 ·rw [if_pos h5,if_pos (.inl h5)]
 by_cases h6:(r.kids.length:Int)≤(acB p r.pc).a
 ·rw [if_neg h5,if_pos h6,if_pos (.inr (.inl h6))]
 rw [if_neg h5,if_neg h6,if_pos (show 0≤(acB p r.pc).a∧(acB p r.pc).a<(r.kids.length:Int) by omega)]
 by_cases h7:acg r.kids (acB p r.pc).a=-1
 ·rw [if_pos h7,if_pos (.inr (.inr h7))]
 ·rw [if_neg h7,if_neg (by omega)]
theorem anW {x:RunV MV} {v:Ev} (h:e.evs.length≤999999999):aaT x e v=some ((),(x,{ e with evs:=e.evs++[{ v with worker:=x.worker }] },())):=by
 unfold aaT
 try simp only [tpI,tlI]
 rw [acE h,bnd]
theorem aGM (hS:SOk st) (hT:0≤aaC st∧aaC st<(e.recs.length:Int)):aaH ⟨o,w,st,1,m,id,ch,lv,wt⟩ e=some ((false,()),(⟨o,w,st,0,.nil,id,ch,lv,wt⟩,(e.pt 2 (aeS e.l (aaC st)) 0).pr (aaC st) { e.rc (aaC st) with waiting := -1 },())):=by
 unfold aaH
 try simp only [tpI,tlI]
 simp only [tpI,tlI,hS.n,hS.a,hS.g,hT,and_self,if_true,amU,abN,aac,bnd]
 rfl
theorem aGL (hS:SOk st) (hT:0≤aaC st∧aaC st<(e.recs.length:Int)) (hp:¬ ((e.rc (aaC st)).pc<0∨((e.prog (e.rc (aaC st))).length:Int)≤(e.rc (aaC st)).pc)):aaH ⟨o,w,st,2,m,id,ch,lv,wt⟩ e=some ((false,()),(⟨o,w,st,0,.nil,id,ch,lv,wt⟩,e.pr (aaC st) (atX (e.rc (aaC st)) (acB (e.prog (e.rc (aaC st))) (e.rc (aaC st)).pc)),())):=by
 unfold aaH
 try simp only [tpI,tlI]
 simp only [tpI,tlI,hS.n,hS.a,hS.g,hT,and_self,if_true,Int.reduceEq,if_false,anI hT,List.set_set,aac,bnd,List.length_set]
 show _=some ((false,()),(_,{ e with recs:=e.recs.set (aaC st).toNat (atX (aab e.recs (aaC st)) (acB (e.prog (aab e.recs (aaC st))) (aab e.recs (aaC st)).pc)) },()))
 have hp':¬ ((aab e.recs (aaC st)).pc<0∨((e.prog (aab e.recs (aaC st))).length:Int)≤(aab e.recs (aaC st)).pc):=hp
 generalize aab e.recs (aaC st)=r at hp' ⊢
 by_cases h1:r.prog<0
 ·rw [agq (.inl h1)] at hp'; simp only [List.length_nil] at hp'; omega
 by_cases h2:(e.c.progs.length:Int)≤r.prog
 ·rw [agq (.inr h2)] at hp'; simp only [List.length_nil] at hp'; omega
 rw [aqC h1 h2] at hp' ⊢
 have h3:(0≤r.prog∧r.prog<(e.c.progs.length:Int))=True:=eq_true (by omega)
 have h4:(0≤r.pc∧r.pc<((atL [] e.c.progs r.prog).length:Int))=True:=eq_true (by omega)
 simp only [h1,h2,h3,h4,if_true,if_false,atX]
 by_cases h5:r.left=0
 ·simp only [h5,if_true]
  split<;>rfl
 ·simp only [h5,if_false]
  split<;>rfl
theorem aGK (hS:SOk st) (hT:0≤aaC st∧aaC st<(e.recs.length:Int)):aaH ⟨o,w,st,3,m,id,ch,lv,wt⟩ e=some ((false,()),(⟨o,w,st,0,.nil,id,ch,lv,wt⟩,e.pr (aaC st) { e.rc (aaC st) with pc:=wi ((e.rc (aaC st)).pc+1) },())):=by
 unfold aaH
 try simp only [tpI,tlI]
 simp only [tpI,tlI,hS.n,hS.a,hS.g,hT,and_self,if_true,Int.reduceEq,if_false,aac,bnd]
 rfl
end
end
section
open Go Go.RowKit
set_option maxRecDepth 100000
set_option maxRecDepth 100000
section
variable [Tb] {e:EnvP} {o:OutV} {w ln id ch lv wt:Int} {st:List Int} {m:MV}
theorem azT (hS:SOk st) (hT:0≤aaC st∧aaC st<(e.recs.length:Int)) (hp:¬ ((e.rc (aaC st)).pc<0∨((e.prog (e.rc (aaC st))).length:Int)≤(e.rc (aaC st)).pc)) (hl:e.evs.length≤999999999) (hk:(e.rc (aaC st)).kids.length≤999999999) (v:Int) :
  acD ⟨o,w,st,4,m,id,ch,lv,wt⟩ e 3 v=some ((false,()),(⟨o,w,st,0,.nil,id,ch,lv,wt⟩,(e.pr (aaC st) { e.rc (aaC st) with pc:=wi ((e.rc (aaC st)).pc+1),kids:=(e.rc (aaC st)).kids++[-1] }).em 4 w (aaC st) 0 0,())):=by
 unfold acD
 try unfold tpI
 try unfold tlI
 have he:∀ (x:RunV MV) (rs:List RecP) (v:Ev),aaT x { e with recs:=rs } v=some ((),(x,{ e with recs:=rs,evs:=e.evs++[{ v with worker:=x.worker }] },())):=fun x rs v =>anW (e:={ e with recs:=rs }) hl
 simp only [hS.n,hS.a,hS.g,hT,and_self,if_true,anI hT,List.set_set,List.length_set]
 have hp':¬ ((aab e.recs (aaC st)).pc<0∨((e.prog (aab e.recs (aaC st))).length:Int)≤(aab e.recs (aaC st)).pc):=hp
 have hk':(aab e.recs (aaC st)).kids.length≤999999999:=hk
 show _=some ((false,()),(_,EnvP.em { e with recs:=e.recs.set (aaC st).toNat { aab e.recs (aaC st) with pc:=wi ((aab e.recs (aaC st)).pc+1),kids:=(aab e.recs (aaC st)).kids++[-1] } } 4 w (aaC st) 0 0,()))
 generalize aab e.recs (aaC st)=r at hp' hk' ⊢
 by_cases h1:r.prog<0
 ·rw [agq (.inl h1)] at hp'; simp only [List.length_nil] at hp'; omega
 by_cases h2:(e.c.progs.length:Int)≤r.prog
 ·rw [agq (.inr h2)] at hp'; simp only [List.length_nil] at hp'; omega
 rw [aqC h1 h2] at hp'
 rw [if_neg h1,if_neg h2,if_pos (show 0≤r.prog∧r.prog<(e.c.progs.length:Int) by omega),if_pos (show 0≤r.pc∧r.pc<((atL [] e.c.progs r.prog).length:Int) by omega),if_pos (show (((r.kids.length+([-1]:List Int).length:Nat)):Int)<1000000000000 by rw [List.length_singleton]; omega)]
 rw [he,bnd,aac,bnd]
 rfl
theorem aCP (hS:SOk st) (hT:0≤aaC st∧aaC st<(e.recs.length:Int)) (hp:¬ ((e.rc (aaC st)).pc<0∨((e.prog (e.rc (aaC st))).length:Int)≤(e.rc (aaC st)).pc)) (hk:(e.rc (aaC st)).kids.length≤999999999) (v:Int) (hv:0≤v∧v<(e.recs.length:Int)) :
  acD ⟨o,w,st,4,m,id,ch,lv,wt⟩ e 1 v=some ((false,()),(⟨o,w,st,5,.publish ⟨o0,v,(acB (e.prog (e.rc (aaC st))) (e.rc (aaC st)).pc).b,1⟩,v,ch,(acB (e.prog (e.rc (aaC st))) (e.rc (aaC st)).pc).b,wt⟩,(e.pr (aaC st) { e.rc (aaC st) with pc:=wi ((e.rc (aaC st)).pc+1),kids:=(e.rc (aaC st)).kids++[v] }).pr v (ayz (acB (e.prog (e.rc (aaC st))) (e.rc (aaC st)).pc).a (aaC st)),())):=by
 unfold acD
 try unfold tpI
 try unfold tlI
 simp only [hS.n,hS.a,hS.g,hT,and_self,if_true,anI hT,List.set_set,List.length_set,Int.reduceEq,if_false,hv]
 have hp':¬ ((aab e.recs (aaC st)).pc<0∨((e.prog (aab e.recs (aaC st))).length:Int)≤(aab e.recs (aaC st)).pc):=hp
 have hk':(aab e.recs (aaC st)).kids.length≤999999999:=hk
 show _=some ((false,()),((⟨o,w,st,5,.publish ⟨o0,v,(acB (e.prog (aab e.recs (aaC st))) (aab e.recs (aaC st)).pc).b,1⟩,v,ch,(acB (e.prog (aab e.recs (aaC st))) (aab e.recs (aaC st)).pc).b,wt⟩:RunV MV),({ e with recs:=(e.recs.set (aaC st).toNat { aab e.recs (aaC st) with pc:=wi ((aab e.recs (aaC st)).pc+1),kids:=(aab e.recs (aaC st)).kids++[v] }).set v.toNat ⟨(acB (e.prog (aab e.recs (aaC st))) (aab e.recs (aaC st)).pc).a,aaC st,0,0,-1,[],false⟩ }:EnvP),()))
 generalize aab e.recs (aaC st)=r at hp' hk' ⊢
 by_cases h1:r.prog<0
 ·rw [agq (.inl h1)] at hp'; simp only [List.length_nil] at hp'; omega
 by_cases h2:(e.c.progs.length:Int)≤r.prog
 ·rw [agq (.inr h2)] at hp'; simp only [List.length_nil] at hp'; omega
 rw [aqC h1 h2] at hp' ⊢
 rw [if_neg h1,if_neg h2,if_pos (show 0≤r.prog∧r.prog<(e.c.progs.length:Int) by omega),if_pos (show 0≤r.pc∧r.pc<((atL [] e.c.progs r.prog).length:Int) by omega),if_pos (show (((r.kids.length+([v]:List Int).length:Nat)):Int)<1000000000000 by rw [List.length_singleton]; omega)]
 rw [akh,bnd,aac,bnd]
theorem aLP (hS:SOk st) (hT:0≤aaC st∧aaC st<(e.recs.length:Int)) (hp:¬ ((e.rc (aaC st)).pc<0∨((e.prog (e.rc (aaC st))).length:Int)≤(e.rc (aaC st)).pc)) (ha:¬ ((acB (e.prog (e.rc (aaC st))) (e.rc (aaC st)).pc).a<0∨((e.rc (aaC st)).kids.length:Int)≤(acB (e.prog (e.rc (aaC st))) (e.rc (aaC st)).pc).a)) :
  aaL ⟨o,w,st,9,m,id,ch,lv,wt⟩ e=some ((false,()),(⟨o,w,st,10,.nil,id,acg (e.rc (aaC st)).kids (acB (e.prog (e.rc (aaC st))) (e.rc (aaC st)).pc).a,lv,wt⟩,(e.pt 2 (aeS e.l (aaC st)) (wu (wi (acg (e.rc (aaC st)).kids (acB (e.prog (e.rc (aaC st))) (e.rc (aaC st)).pc).a+1)))).pr (aaC st) { e.rc (aaC st) with pc:=wi ((e.rc (aaC st)).pc+1),waiting:=acg (e.rc (aaC st)).kids (acB (e.prog (e.rc (aaC st))) (e.rc (aaC st)).pc).a },())):=by
 unfold aaL
 try unfold tpI
 try unfold tlI
 simp only [hS.n,hS.a,hS.g,hT,and_self,if_true,au2 hT,anI hT,List.set_set,List.length_set]
 have hp':¬ ((aab e.recs (aaC st)).pc<0∨((e.prog (aab e.recs (aaC st))).length:Int)≤(aab e.recs (aaC st)).pc):=hp
 have ha':¬ ((acB (e.prog (aab e.recs (aaC st))) (aab e.recs (aaC st)).pc).a<0∨((aab e.recs (aaC st)).kids.length:Int)≤(acB (e.prog (aab e.recs (aaC st))) (aab e.recs (aaC st)).pc).a):=ha
 show _=some ((false,()),((⟨o,w,st,10,.nil,id,acg (aab e.recs (aaC st)).kids (acB (e.prog (aab e.recs (aaC st))) (aab e.recs (aaC st)).pc).a,lv,wt⟩:RunV MV),EnvP.pr (e.pt 2 (aeS e.l (aaC st)) (wu (wi (acg (aab e.recs (aaC st)).kids (acB (e.prog (aab e.recs (aaC st))) (aab e.recs (aaC st)).pc).a+1)))) (aaC st) { aab e.recs (aaC st) with pc:=wi ((aab e.recs (aaC st)).pc+1),waiting:=acg (aab e.recs (aaC st)).kids (acB (e.prog (aab e.recs (aaC st))) (aab e.recs (aaC st)).pc).a },()))
 generalize aab e.recs (aaC st)=r at hp' ha' ⊢
 by_cases h1:r.prog<0
 ·rw [agq (.inl h1)] at hp'; simp only [List.length_nil] at hp'; omega
 by_cases h2:(e.c.progs.length:Int)≤r.prog
 ·rw [agq (.inr h2)] at hp'; simp only [List.length_nil] at hp'; omega
 rw [aqC h1 h2] at hp' ha' ⊢
 rw [if_neg h1,if_neg h2,if_pos (show 0≤r.prog∧r.prog<(e.c.progs.length:Int) by omega),if_pos (show 0≤r.pc∧r.pc<((atL [] e.c.progs r.prog).length:Int) by omega),if_pos (show 0≤(acB (atL [] e.c.progs r.prog) r.pc).a∧(acB (atL [] e.c.progs r.prog) r.pc).a<(r.kids.length:Int) by omega)]
 rw [amU,bnd,abN,bnd,aac,bnd]
 rfl
theorem ax8 {α β:Type} {X:Option ((Bool×Unit)×(α×β×Unit))}:(X.bind fun r =>some ((r.1.1,()),(r.2.1,r.2.2.1,())))=X:=by cases X<;>rfl
theorem asW (hS:SOk st) (hT:IsT e (aaC st)) (hc:e.c.tasks=(e.recs.length:Int)) (X:Option ((Bool×Unit)×(RunV MV×EnvP×Unit))) (a b c:Option ((Bool×Unit)×(RunV MV×EnvP×Unit))) :
  (if aaC st<0 then a else if e.c.tasks≤aaC st then b else if (e.recs.length:Int)≤aaC st then c else X)=X:=by
 have h1:=hT.1
 have h2:=hT.2
 rw [if_neg (by omega),if_neg (by omega),if_neg (by omega)]
theorem amN (hS:SOk st) (hT:IsT e (aaC st)) (hc:e.c.tasks=(e.recs.length:Int)) (h:4≤ln∧ln≤8):abD ⟨o0,w,st,ln,m,id,ch,lv,wt⟩ e=abA ⟨o0,w,st,ln,m,id,ch,lv,wt⟩ e:=by
 unfold abD
 try unfold tpI
 try unfold tlI
 simp only [aaw,abx,o0,bnd,hS.n,hS.a,hS.g,if_true,Bool.false_eq_true,if_false,ax8,asW hS hT hc]
 rw [if_neg (by omega),if_neg (by omega),if_neg (by omega),if_neg (by omega),if_pos h.1,if_pos h.2]
theorem ak6 (hS:SOk st) (hT:IsT e (aaC st)) (hc:e.c.tasks=(e.recs.length:Int)) (h:9≤ln∧ln≤15):abD ⟨o0,w,st,ln,m,id,ch,lv,wt⟩ e=aaL ⟨o0,w,st,ln,m,id,ch,lv,wt⟩ e:=by
 unfold abD
 try unfold tpI
 try unfold tlI
 simp only [aaw,abx,o0,bnd,hS.n,hS.a,hS.g,if_true,Bool.false_eq_true,if_false,ax8,asW hS hT hc]
 rw [if_neg (by omega),if_neg (by omega),if_neg (by omega),if_neg (by omega),if_pos (show 4≤ln by omega),if_neg (by omega),if_pos h.1,if_pos h.2]
theorem aiP (hS:SOk st) (hT:IsT e (aaC st)) (hc:e.c.tasks=(e.recs.length:Int)) (h:16≤ln):abD ⟨o0,w,st,ln,m,id,ch,lv,wt⟩ e=aar ⟨o0,w,st,ln,m,id,ch,lv,wt⟩ e:=by
 unfold abD
 try unfold tpI
 try unfold tlI
 simp only [aaw,abx,o0,bnd,hS.n,hS.a,hS.g,if_true,Bool.false_eq_true,if_false,ax8,asW hS hT hc]
 rw [if_neg (by omega),if_neg (by omega),if_neg (by omega),if_neg (by omega),if_pos (show 4≤ln by omega),if_neg (by omega),if_pos (show 9≤ln by omega),if_neg (by omega)]
theorem aDH (hS:SOk st) (hT:IsT e (aaC st)) (hc:e.c.tasks=(e.recs.length:Int)) {c:Int} (h:agj (e.rc (aaC st)) (e.prog (e.rc (aaC st)))=c) (hR:0≤aaC st∧aaC st<(e.recs.length:Int)) :
  abD ⟨o0,w,st,0,m,id,ch,lv,wt⟩ e=if c=4 then abA ⟨o0,w,st,4,.alloc ⟨o0⟩,id,ch,lv,wt⟩ e else if c=1∨c=2∨c=3 then aaH ⟨o0,w,st,c,m,id,ch,lv,wt⟩ e else if c=9 then aaL ⟨o0,w,st,c,m,id,ch,lv,wt⟩ e else aar ⟨o0,w,st,c,m,id,ch,lv,wt⟩ e:=by
 have hch:=aCr (x:=⟨⟨false,0,0⟩,w,st,0,m,id,ch,lv,wt⟩) hS hR
 simp only [h] at hch
 have hv:c=1∨c=16∨c=2∨c=4∨c=3∨c=9:=by
  rw [← h]
  unfold agj
  repeat' split
  all_goals simp
 unfold abD
 try unfold tpI
 try unfold tlI
 simp only [aaw,abx,o0,bnd,hS.n,hS.a,hS.g,if_true,Bool.false_eq_true,if_false,ax8,asW hS hT hc,hch,afK]
 rcases hv with rfl | rfl | rfl | rfl | rfl | rfl<;>simp only [Int.reduceEq,Int.reduceLE,if_true,if_false,or_self,or_true,true_or,false_or,or_false]
end
end
section
open Go Go.RowKit
set_option maxRecDepth 100000
@[reducible] def aJh (l : LayV) (w id lv wt : Int) : RunC → Int × MV
 | .next =>(0,.nil)
 | .s2 s =>(5,.publish (amO id lv s))
 | .s3 s =>(6,.lpush (aqY l w lv id s))
 | .s4 s =>(7,.wake (auD w lv s))
 | .s5 =>(8,.claim ⟨o0,w,id⟩)
 | .j2 =>(10,.nil)
 | .j3 =>(11,.nil)
 | .j4 =>(12,.nil)
 | .j5 s =>(13,.walk (aGe l w lv s))
 | .j6 =>(14,.nil)
 | .j7 =>(15,.nil)
 | .f2 =>(17,.nil)
 | .f3 =>(18,.nil)
 | .f4 s =>(19,.enter (aB2 l w wt s))
 | .f5 v s =>(20,.wake (auD w v s))
 | .f6 =>(21,.claim ⟨o0,w,wt⟩)
@[reducible] def aK7 (l : LayV) (w : Int) (r : RunS) : RunV MV :=
 ⟨o0,w,r.stack,(aJh l w r.id r.level r.waiter r.c).1,(aJh l w r.id r.level r.waiter r.c).2,r.id,r.child,r.level,r.waiter⟩
section
variable [Tb] {K:Nat} {e:EnvP} {w:Int}
theorem aiY {l:LayV} {e':EnvP} {st:List Int} {ln id ch lv wt:Int} {m:MV} {c:RunC} (hS:SOk st):aaY RunV.o (aK7 l w) ((aaE ⟨⟨false,0,0⟩,w,st,ln,m,id,ch,lv,wt⟩).bind fun r =>some ((r.1.1,()),(r.2.1,e',()))) (aia ⟨st,id,ch,lv,wt,c⟩ e'):=by
 have h1:=List.length_pos_iff.2 hS.ne
 have h2:=hS.le
 unfold aaE aia
 try simp only [tpI,tlI]
 simp only [tpI,tlI,hS.n,hS.g2,hS.t,if_true,List.length_dropLast,abx,aac,bnd,acK,aa3]
 by_cases hl:st.length=1
 ·rw [if_pos (by omega),if_pos hl]; exact ⟨_,rfl,rfl⟩
 ·rw [if_neg (by omega),if_neg hl]; rfl
theorem aGU (hK:EOk K e) (hk:K≤100000000) (r:RunS) (hS:SOk r.stack):aaY RunV.o (aK7 e.l w) (abD (aK7 e.l w r) e) (awb w e r):=by
 have hl:e.evs.length≤999999999:=by have:=hK.ev; omega
 obtain ⟨st,id,ch,lv,wt,c⟩:=r
 have hS:SOk st:=hS
 unfold awb
 by_cases hT:IsT e (aaC st)
 ·have hR:0≤aaC st∧aaC st<(e.recs.length:Int):=⟨hT.1,by have:=hT.2; have:=hK.ct; omega⟩
  have hct:=hK.ct
  have he:∀ (x:RunV MV) (e':EnvP) (_:e'.evs.length≤999999999) (v:Ev),aaT x e' v=some ((),(x,{ e' with evs:=e'.evs++[{ v with worker:=x.worker }] },())):=fun x e' h v =>anW h
  rw [if_neg (fun h =>h hT)]
  unfold aec
  cases c with
  | next =>
   simp only [apz]
   have hkd:(e.rc (aaC st)).kids.length≤999999999:=by have:=as3 hR K hK.kd; omega
   have hnx:=fun c h =>aDH (w:=w) (id:=id) (ch:=ch) (lv:=lv) (wt:=wt) (m:=.nil) hS hT hct (c:=c) h hR
   by_cases c1:(e.rc (aaC st)).waiting ≠ -1
   ·rw [if_pos c1]
    rw [hnx 1 (by unfold agj; rw [if_pos c1])]
    simp only [Int.reduceEq,if_false,true_or,if_true]
    rw [aGM hS hR]
    rfl
   rw [if_neg c1]
   by_cases c2:(e.rc (aaC st)).pc<0∨((e.prog (e.rc (aaC st))).length:Int)≤(e.rc (aaC st)).pc
   ·rw [if_pos c2]
    rw [hnx 16 (by unfold agj; rw [if_neg c1,if_pos c2])]
    simp only [Int.reduceEq,if_false,or_self]
    simp only [tpI,tlI,aar,hS.n,hS.a,hS.g,if_true,afS,abN,aac,bnd]
    rfl
   rw [if_neg c2]
   by_cases c3:(acB (e.prog (e.rc (aaC st))) (e.rc (aaC st)).pc).op=0
   ·rw [if_pos c3]
    rw [hnx 2 (by unfold agj; rw [if_neg c1,if_neg c2,if_pos c3])]
    simp only [Int.reduceEq,if_false,false_or,true_or,or_true,if_true]
    rw [aGL hS hR c2]
    rfl
   rw [if_neg c3]
   by_cases c4:(acB (e.prog (e.rc (aaC st))) (e.rc (aaC st)).pc).op=1
   ·rw [if_pos c4]
    rw [hnx 4 (by unfold agj; rw [if_neg c1,if_neg c2,if_neg c3,if_pos c4])]
    obtain ⟨x',h,ho⟩:=av5 (e:=e)
    simp only [tpI,tlI,if_true,abA,agz,bnd,h,aet,Bool.not_true,Bool.false_eq_true,if_false]
    by_cases ci:IsT e (wi (e.gt 0))
    ·rw [if_pos ci] at ho ⊢
     have hv:0≤wi (e.gt 0)∧wi (e.gt 0)<((ab6 e).recs.length:Int):=⟨ci.1,by have:=ci.2; show _<(e.recs.length:Int); omega⟩
     have ha:=aCP (e:=ab6 e) (o:=o0) (w:=w) (id:=id) (ch:=ch) (lv:=lv) (wt:=wt) (m:=.alloc x') hS hR c2 hkd (wi (e.gt 0)) hv
     simp only [ho]
     rw [ha]
     rfl
    ·rw [if_neg ci] at ho ⊢
     have ha:=azT (e:=ab6 e) (o:=o0) (w:=w) (id:=id) (ch:=ch) (lv:=lv) (wt:=wt) (m:=.alloc x') hS hR c2 hl hkd 0
     simp only [ho]
     rw [ha]
     rfl
   rw [if_neg c4]
   by_cases c5:(acB (e.prog (e.rc (aaC st))) (e.rc (aaC st)).pc).a<0∨((e.rc (aaC st)).kids.length:Int)≤(acB (e.prog (e.rc (aaC st))) (e.rc (aaC st)).pc).a∨acg (e.rc (aaC st)).kids (acB (e.prog (e.rc (aaC st))) (e.rc (aaC st)).pc).a=-1
   ·rw [if_pos c5]
    rw [hnx 3 (by unfold agj; rw [if_neg c1,if_neg c2,if_neg c3,if_neg c4,if_pos c5])]
    simp only [Int.reduceEq,if_false,false_or,or_true,if_true]
    rw [aGK hS hR]
    rfl
   ·rw [if_neg c5]
    rw [hnx 9 (by unfold agj; rw [if_neg c1,if_neg c2,if_neg c3,if_neg c4,if_neg c5])]
    simp only [Int.reduceEq,if_false,or_self,if_true]
    rw [aLP hS hR c2 (fun h =>c5 (h.elim .inl fun h =>.inr (.inl h)))]
    rfl
  | s2 s =>
   have h:=awB (e:=e) (t:=id) (v:=lv) s
   have hn:=ar7 (e:=e) (t:=id) (v:=lv) s
   simp only [amN hS hT hct (show (4:Int)≤5∧(5:Int)≤8 by decide)]
   revert h hn
   simp only [tpI,tlI,abA,agz,bnd]
   rcases afR id lv e s with ⟨r | ⟨c,y⟩,e'⟩<;>intro h hn
   ·simp only [aaY] at h
    simp only [h,bnd,Bool.not_false,if_true]
    rfl
   ·simp only [aaY] at h
    obtain ⟨x',h,ho⟩:=h
    have hl':e'.evs.length≤999999999:=by have h1:e'.evs.length≤e.evs.length+0:=hn.ev; have:=hK.ev; omega
    simp only [tpI,tlI,h,ho,aet,bnd,Bool.not_true,Bool.false_eq_true,if_false,if_true,Int.reduceEq,hS.n,hS.a,hS.g,he _ e' hl',ac3,aac]
    rfl
  | s3 s =>
   have h:=akC (w:=w) (v:=lv) (x:=id) hK s
   simp only [amN hS hT hct (show (4:Int)≤6∧(6:Int)≤8 by decide)]
   revert h
   simp only [tpI,tlI,abA,agz,bnd]
   rcases abO w lv id e s with ⟨r | ⟨c,y⟩,e'⟩<;>intro h
   ·simp only [aaY] at h
    simp only [h,bnd,Bool.not_false,if_true]
    rfl
   ·simp only [aaY] at h
    obtain ⟨x',h,ho⟩:=h
    simp only [tpI,tlI,h,ho,aet,bnd,Bool.not_true,Bool.false_eq_true,if_false,if_true,Int.reduceEq,ado,aed,aac]
    by_cases hc:c=3
    ·simp only [hc,if_true]; rfl
    ·simp only [hc,if_false]; rfl
  | s4 s =>
   have h:=amn (e:=e) (w:=w) (v:=lv) hl s
   simp only [amN hS hT hct (show (4:Int)≤7∧(7:Int)≤8 by decide)]
   revert h
   simp only [tpI,tlI,abA,agz,bnd]
   rcases aez w lv e s with ⟨r | ⟨c,y⟩,e'⟩<;>intro h
   ·simp only [aaY] at h
    simp only [h,bnd,Bool.not_false,if_true]
    rfl
   ·simp only [aaY] at h
    obtain ⟨x',h,ho⟩:=h
    simp only [tpI,tlI,h,ho,aet,bnd,Bool.not_true,Bool.false_eq_true,if_false,if_true,Int.reduceEq,aac]
    rfl
  | s5 =>
   obtain ⟨x',h,ho⟩:=anz (w:=w) (t:=id) hl hK.st
   simp only [amN hS hT hct (show (4:Int)≤8∧(8:Int)≤8 by decide)]
   simp only [tpI,tlI,abA,agz,bnd,h,aet,Bool.not_true,Bool.false_eq_true,if_false,if_true,Int.reduceEq,aac]
   have hsl:((st.length+([id]:List Int).length:Nat):Int)<1000000000000:=by
    have h2:st.length≤999999999:=hS.le
    clear hR hct hl hk hK
    trace_state
    rw [List.length_singleton]
    omega
   rcases Bool.eq_false_or_eq_true (adk id e) with hc | hc
   ·simp only [hc,if_true] at ho ⊢
    simp only [ho,if_true,hsl]
    rfl
   ·simp only [hc,Bool.false_eq_true,if_false] at ho ⊢
    simp only [ho,Int.reduceEq,if_false]
    rfl
  | j2 =>
   simp only [tpI,tlI,ak6 hS hT hct (show (9:Int)≤10∧(10:Int)≤15 by decide),aaL,hS.n,hS.a,hS.g,if_true,Int.reduceEq,if_false,afS,abN,aac,bnd]
   rfl
  | j3 =>
   simp only [tpI,tlI,ak6 hS hT hct (show (9:Int)≤11∧(11:Int)≤15 by decide),aaL,hS.n,hS.a,hS.g,if_true,Int.reduceEq,if_false,atb,akA,aac,he _ { e with m:=e.m.cas (ac4 e.l ch) 0 (wu (wi (aaC st+1))) } hl,bnd]
   exact aaY.iteN (fun _ =>rfl) fun _ =>rfl
  | j4 =>
   simp only [tpI,tlI,ak6 hS hT hct (show (9:Int)≤12∧(12:Int)≤15 by decide),aaL,hS.n,hS.a,hS.g,if_true,Int.reduceEq,if_false,agC,abU,anE,aac,bnd]
   rfl
  | j5 s =>
   have h:=aC9 (w:=w) (v:=lv) hK hk s
   have hn:=az7 (e:=e) (w:=w) (v:=lv) s
   simp only [ak6 hS hT hct (show (9:Int)≤13∧(13:Int)≤15 by decide)]
   revert h hn
   simp only [tpI,tlI,aaL,hS.n,hS.a,hS.g,if_true,Int.reduceEq,if_false,agz,bnd]
   rcases aeL w lv e s with ⟨r | ⟨c,y⟩,e'⟩<;>intro h hn
   ·simp only [aaY] at h
    simp only [h,bnd,Bool.not_false,if_true]
    rfl
   ·simp only [aaY] at h
    obtain ⟨x',h,ho⟩:=h
    have hl':e'.evs.length≤999999999:=by have h1:e'.evs.length≤e.evs.length+1:=hn.ev; have:=hK.ev; omega
    simp only [h,bnd,Bool.not_true,Bool.false_eq_true,if_false,he _ e' hl']
    exact aiY hS
  | j6 =>
   simp only [tpI,tlI,ak6 hS hT hct (show (9:Int)≤14∧(14:Int)≤15 by decide),aaL,hS.n,hS.a,hS.g,if_true,Int.reduceEq,if_false,afS,abN,aac,bnd]
   rfl
  | j7 =>
   simp only [tpI,tlI,ak6 hS hT hct (show (9:Int)≤15∧(15:Int)≤15 by decide),aaL,hS.n,hS.a,hS.g,hR,and_self,if_true,Int.reduceEq,if_false,amU,abN,aac,bnd]
   have he2:∀ (x:RunV MV) (m':MemV) (rs:List RecP) (v:Ev),aaT x { e with m:=m',recs:=rs } v=some ((),(x,{ e with m:=m',recs:=rs,evs:=e.evs++[{ v with worker:=x.worker }] },())):=fun x m' rs v =>anW (e:={ e with m:=m',recs:=rs }) hl
   rw [he2,bnd]
   rfl
  | f2 =>
   simp only [tpI,tlI,aiP hS hT hct (show (16:Int)≤17 by decide),aar,hS.n,hS.a,hS.g,if_true,Int.reduceEq,if_false,atb,akA,aac,he _ { e with m:=e.m.cas (ac4 e.l (aaC st)) 0 4294967296 } hl,bnd]
   refine aaY.ite (fun _ =>?_) fun _ =>rfl
   exact aiY hS
  | f3 =>
   simp only [tpI,tlI,aiP hS hT hct (show (16:Int)≤18 by decide),aar,hS.n,hS.a,hS.g,if_true,Int.reduceEq,if_false,atb,abU,aac,ak0,bnd]
   by_cases h1:wi (wi (e.m.gt (ac4 e.l (aaC st)))-1)<0
   ·rw [if_pos h1,if_neg (show ¬ IsT e (wi (wi (e.m.gt (ac4 e.l (aaC st)))-1)) from fun h =>by have:=h.1; omega)]
    exact aiY hS
   by_cases h2:e.c.tasks≤wi (wi (e.m.gt (ac4 e.l (aaC st)))-1)
   ·rw [if_neg h1,if_pos h2,if_neg (show ¬ IsT e (wi (wi (e.m.gt (ac4 e.l (aaC st)))-1)) from fun h =>by have:=h.2; omega)]
    exact aiY hS
   ·rw [if_neg h1,if_neg h2,if_pos (show IsT e (wi (wi (e.m.gt (ac4 e.l (aaC st)))-1)) from ⟨by omega,by omega⟩)]
    rfl
  | f4 s =>
   have h:=aB0 (w:=w) (t:=wt) hK s
   simp only [aiP hS hT hct (show (16:Int)≤19 by decide)]
   revert h
   simp only [tpI,tlI,aar,hS.n,hS.a,hS.g,if_true,Int.reduceEq,if_false,agz,bnd]
   rcases adX w wt e s with ⟨r | ⟨c,y⟩,e'⟩<;>intro h
   ·simp only [aaY] at h
    simp only [h,bnd,Bool.not_false,if_true]
    rfl
   ·simp only [aaY] at h
    obtain ⟨x',h,ho⟩:=h
    simp only [tpI,tlI,h,ho,aet,bnd,Bool.not_true,Bool.false_eq_true,if_false,if_true,Int.reduceEq,ado,aed,aac]
    by_cases hc:c=3
    ·simp only [hc,if_true]; rfl
    ·simp only [hc,if_false]; rfl
  | f5 v s =>
   have h:=amn (e:=e) (w:=w) (v:=v) hl s
   simp only [aiP hS hT hct (show (16:Int)≤20 by decide)]
   revert h
   simp only [tpI,tlI,aar,hS.n,hS.a,hS.g,if_true,Int.reduceEq,if_false,agz,bnd]
   rcases aez w v e s with ⟨r | ⟨c,y⟩,e'⟩<;>intro h
   ·simp only [aaY] at h
    simp only [h,bnd,Bool.not_false,if_true]
    rfl
   ·simp only [aaY] at h
    obtain ⟨x',h,ho⟩:=h
    simp only [h,ho,aet,bnd,Bool.not_true,Bool.false_eq_true,if_false]
    exact aiY hS
  | f6 =>
   obtain ⟨x',h,ho⟩:=anz (w:=w) (t:=wt) hl hK.st
   simp only [aiP hS hT hct (show (16:Int)≤21 by decide)]
   simp only [tpI,tlI,aar,hS.n,hS.a,hS.g,hS.s,agz,bnd,h,aet,Bool.not_true,Bool.false_eq_true,if_false,if_true,Int.reduceEq,aac]
   rcases Bool.eq_false_or_eq_true (adk wt e) with hc | hc
   ·simp only [hc,if_true] at ho ⊢
    simp only [ho,if_true]
    rfl
   ·simp only [hc,Bool.false_eq_true,if_false] at ho ⊢
    simp only [ho,Int.reduceEq,if_false]
    exact aiY hS
 ·rw [if_pos hT]
  have hb:aaC st<0∨e.c.tasks≤aaC st:=by
   unfold IsT at hT
   omega
  simp only [tpI,tlI,abD,aaw,abx,o0,bnd,hS.n,hS.a,hS.g,if_true,Bool.false_eq_true,if_false]
  rcases hb with hb | hb
  ·rw [if_pos hb]; exact ⟨_,rfl,rfl⟩
  ·by_cases h0:aaC st<0
   ·rw [if_pos h0]; exact ⟨_,rfl,rfl⟩
   ·rw [if_neg h0,if_pos hb]; exact ⟨_,rfl,rfl⟩
end
@[reducible] def aFp (l : LayV) (w vi lv x : Int) : WorkC → Int × MV
 | .top =>(0,.nil)
 | .t1 t s =>(1,.sweep (ahD l w t s))
 | .t2 s =>(2,.take (aGl l w s))
 | .t3 s =>(3,.drain (ayZ l w s))
 | .t4 s =>(4,.probe (amR w s))
 | .t5 s =>(5,.steal (axT (aav l vi lv) s))
 | .t6 =>(6,.claim ⟨o0,w,x⟩)
 | .t7 s =>(7,.run (aK7 l w s))
 | .t8 s =>(8,.sleep (auK w s))
 | .t9 s =>(9,.reset (auX (aaI l vi) lv (aav l vi lv) s))
@[reducible] def ah0 (l : LayV) (w : Int) (k : WorkS) : WorkerV MV :=
 ⟨w,k.cursor,(aFp l w k.victim k.level k.x k.c).1,(aFp l w k.victim k.level k.x k.c).2,k.victim,k.level,k.x⟩
def aK4 (K:Nat) (r:RunS):Prop:=r.stack≠[]∧r.stack.length≤K
def ahZ (K:Nat) (n:Int) (k:WorkS):Prop:=match k.c with
 | .t3 s =>auu s
 | .t4 s =>aoK n s
 | .t7 s =>aK4 K s
 | _ =>True
section
variable [Tb] {K:Nat} {e:EnvP} {w:Int}
theorem anf {j:Nat} {e':EnvP} {r:RunS} (h:Stp j e e'):Stp j e (aia r e').2:=h
theorem aHc {a v t:Int} {r:RecP} (hr:∀ K,(∀ r∈e.recs,r.kids.length≤K)→r.kids.length≤K+1):Stp 0 e ((e.pt 2 a v).pr t r):=Stp.pr (Stp.pt (by decide)) hr
theorem aCe {x:RecP} {i:Ins}:(atX x i).kids=x.kids:=by
 unfold atX
 repeat' split
 all_goals rfl
theorem aJf (hK:EOk K e) (r:RunS):Stp 2 e (awb w e r).2:=by
 obtain ⟨st,id,ch,lv,wt,c⟩:=r
 unfold awb
 by_cases hT:IsT e (aaC st)
 ·have hR:0≤aaC st∧aaC st<(e.recs.length:Int):=⟨hT.1,by have:=hT.2; have:=hK.ct; omega⟩
  have hkid:∀ K,(∀ r∈e.recs,r.kids.length≤K)→(e.rc (aaC st)).kids.length≤K+1:=fun K h =>Nat.le_succ_of_le (as3 hR K h)
  have hkid1:∀ v:Int,∀ K,(∀ r∈e.recs,r.kids.length≤K)→((e.rc (aaC st)).kids++[v]).length≤K+1:=fun v K h =>by
   have:=as3 hR K h
   rw [List.length_append,List.length_singleton]; omega
  rw [if_neg (fun h =>h hT)]
  cases c with
  | next =>
   simp only [aec,apz]
   split
   ·exact Stp.le (aHc hkid) (Nat.zero_le _)
   split
   ·exact Stp.le (.pt (by decide)) (by decide)
   split
   ·exact Stp.le (Stp.pr Stp.refl fun K h =>by rw [aCe]; exact hkid K h) (Nat.zero_le _)
   split
   ·split
    ·exact Stp.le (Stp.pr (Stp.pr ap9 (hkid1 _)) fun K h =>Nat.zero_le _) (Nat.zero_le _)
    ·exact Stp.le (Stp.em (Stp.pr ap9 (hkid1 _))) (Nat.le_succ 1)
   split
   ·exact Stp.le (Stp.pr Stp.refl hkid) (Nat.zero_le _)
   ·exact Stp.le (aHc hkid) (Nat.zero_le _)
  | s2 s =>
   have h:=ar7 (e:=e) (t:=id) (v:=lv) s
   revert h
   simp only [aec]
   rcases afR id lv e s with ⟨r | ⟨c,y⟩,e'⟩<;>intro h
   ·exact h.le (by decide)
   ·exact h.em.le (by decide)
  | s3 s =>
   have h:=ahl (e:=e) (w:=w) (v:=lv) (x:=id) s
   revert h
   simp only [aec]
   rcases abO w lv id e s with ⟨r | ⟨c,y⟩,e'⟩<;>intro h<;>exact h.le (by decide)
  | s4 s =>
   have h:=aqf (e:=e) (w:=w) (v:=lv) s
   revert h
   simp only [aec]
   rcases aez w lv e s with ⟨r | ⟨c,y⟩,e'⟩<;>intro h<;>exact h.le (by decide)
  | s5 =>exact (anA (w:=w) (t:=id) hK.st).le (by decide)
  | j2 =>exact Stp.le (.pt (by decide)) (by decide)
  | j3 =>
   simp only [aec]
   split
   ·exact Stp.cas.em.le (by decide)
   ·exact Stp.cas.le (by decide)
  | j4 =>exact Stp.lk.le (by decide)
  | j5 s =>
   have h:=az7 (e:=e) (w:=w) (v:=lv) s
   revert h
   simp only [aec]
   rcases aeL w lv e s with ⟨r | ⟨c,y⟩,e'⟩<;>intro h
   ·exact h.le (by decide)
   ·exact anf h.em
  | j6 =>exact Stp.le (.pt (by decide)) (by decide)
  | j7 =>exact Stp.le (Stp.em (aHc hkid)) (Nat.le_succ 1)
  | f2 =>
   simp only [aec]
   split
   ·exact anf (Stp.cas.em.le (by decide))
   ·exact Stp.cas.em.le (by decide)
  | f3 =>
   simp only [aec]
   split
   ·exact Stp.lk.le (by decide)
   ·exact anf (Stp.lk.le (by decide))
  | f4 s =>
   have h:=aEP (e:=e) (w:=w) (t:=wt) s
   revert h
   simp only [aec]
   rcases adX w wt e s with ⟨r | ⟨c,y⟩,e'⟩<;>intro h<;>exact h.le (by decide)
  | f5 v s =>
   have h:=aqf (e:=e) (w:=w) (v:=v) s
   revert h
   simp only [aec]
   rcases aez w v e s with ⟨r | ⟨c,y⟩,e'⟩<;>intro h
   ·exact h.le (by decide)
   ·exact anf (h.le (by decide))
  | f6 =>
   simp only [aec]
   split
   ·exact (anA (w:=w) (t:=wt) hK.st).le (by decide)
   ·exact anf ((anA (w:=w) (t:=wt) hK.st).le (by decide))
 ·rw [if_pos hT]; exact Stp.refl.le (by decide)
theorem ane {r r':RunS} {e e':EnvP} (hr:r.stack≠[]) (h:aia r e=(.go r',e')):r'.stack≠[]∧r'.stack.length≤r.stack.length+1:=by
 have h1:=List.length_pos_iff.2 hr
 unfold aia at h
 split at h
 ·cases h
 ·cases h
  refine ⟨List.length_pos_iff.1 ?_,?_⟩<;>simp only [List.length_dropLast]<;>omega
theorem aJe {r r':RunS} {e':EnvP} (hr:r.stack≠[]) (h:awb w e r=(.go r',e')):r'.stack≠[]∧r'.stack.length≤r.stack.length+1:=by
 obtain ⟨st,id,ch,lv,wt,c⟩:=r
 have hr:st≠[]:=hr
 have hz:st≠[]∧st.length≤st.length+1:=⟨hr,Nat.le_succ _⟩
 unfold awb at h
 split at h
 ·cases h
 cases c with
 | next =>
  simp only [aec,apz] at h
  repeat' split at h
  all_goals cases h; exact hz
 | s2 s =>
  simp only [aec] at h
  split at h<;>cases h<;>exact hz
 | s3 s =>
  simp only [aec] at h
  split at h<;>cases h<;>exact hz
 | s4 s =>
  simp only [aec] at h
  split at h<;>cases h<;>exact hz
 | s5 =>
  simp only [aec] at h
  cases h
  split
  ·refine ⟨by simp,?_⟩
   simp only [List.length_append,List.length_singleton]; omega
  ·exact hz
 | j2 =>cases h; exact hz
 | j3 =>
  simp only [aec] at h
  split at h<;>cases h<;>exact hz
 | j4 =>cases h; exact hz
 | j5 s =>
  simp only [aec] at h
  split at h
  ·cases h; exact hz
  ·exact ane hr h
 | j6 =>cases h; exact hz
 | j7 =>cases h; exact hz
 | f2 =>
  simp only [aec] at h
  split at h
  ·exact ane hr h
  ·cases h; exact hz
 | f3 =>
  simp only [aec] at h
  split at h
  ·cases h; exact hz
  ·exact ane (r:=⟨st,id,ch,lv,wi (wi (e.gt (ac4 e.l (aaC st)))-1),.f3⟩) hr h
 | f4 s =>
  simp only [aec] at h
  split at h<;>cases h<;>exact hz
 | f5 v s =>
  simp only [aec] at h
  split at h
  ·cases h; exact hz
  ·exact ane hr h
 | f6 =>
  simp only [aec] at h
  split at h
  ·cases h
   refine ⟨by simp,?_⟩
   simp only [List.length_append,List.length_singleton,List.length_dropLast]; omega
  ·exact ane hr h
theorem aDt {cur vi lv x:Int}:aag ⟨w,cur,0,.nil,vi,lv,x⟩ e=aag (ah0 e.l w ⟨cur,vi,lv,x,abZ w e ⟨cur,vi,lv,x,.top⟩⟩) e:=by
 unfold abZ
 by_cases ha:e.c.age=0
 ·simp only [ha,if_true,aag,aeK,aaf,agn,agE,bnd,if_false,Int.reduceEq,azo,Int.reduceLE,o0]
 ·simp only [ha,if_false,aag,aeK,aaf,aoJ,aod,bnd,if_true,Int.reduceEq,Int.reduceLE,o0]
def azl (l:LayV) (w:Int) (res:Option ((Bool×Unit)×(WorkerV MV×EnvP×Unit))) (r:WorkS×EnvP):Prop:=res=some ((false,()),(ah0 l w r.1,r.2,()))
theorem azl.ite {l:LayV} {c:Prop} [Decidable c] {a b:Option ((Bool×Unit)×(WorkerV MV×EnvP×Unit))} {r s:WorkS×EnvP} (h1:c→azl l w a r) (h2:¬ c→azl l w b s):azl l w (if c then a else b) (if c then r else s):=by
 by_cases h:c
 ·rw [if_pos h,if_pos h]; exact h1 h
 ·rw [if_neg h,if_neg h]; exact h2 h
theorem aqc {c:Prop} [Decidable c] {x y:WorkS} {e:EnvP}:((if c then x else y),e)=if c then (x,e) else (y,e):=by split<;>rfl
theorem auz (hK:EOk K e) (hk:K≤100000000) (k:WorkS) (hc:k.c≠.top) (hW:ahZ K (abJ e) k):azl e.l w (aag (ah0 e.l w k) e) (abu w e k):=by
 have hl:e.evs.length≤999999999:=by have:=hK.ev; omega
 obtain ⟨cur,vi,lv,x,c⟩:=k
 cases c with
 | top =>exact absurd rfl hc
 | t1 t s =>
  have h:=aAh (w:=w) (t:=t) hK hk s
  revert h
  simp only [abu,abZ,aag,aer,bnd,Int.reduceEq,if_false]
  rcases abh w t e s with ⟨r | ⟨c,y⟩,e'⟩<;>intro h
  ·simp only [aaY] at h
   simp only [h,bnd,Bool.not_false,if_true]
   rfl
  ·simp only [aaY] at h
   obtain ⟨x',h,ho⟩:=h
   simp only [h,ho,abR,acj,aaf,agn,agE,bnd,Bool.not_true,Bool.false_eq_true,if_true,if_false,Int.reduceEq,Int.reduceLE]
   rfl
 | t2 s =>
  have h:=aDh (w:=w) hK hk s
  revert h
  simp only [abu,abZ,aag,aer,bnd,Int.reduceEq,if_false]
  rcases akg w e s with ⟨r | ⟨c,y⟩,e'⟩<;>intro h
  ·simp only [aaY] at h
   simp only [h,bnd,Bool.not_false,if_true]
   rfl
  ·simp only [aaY] at h
   obtain ⟨x',h,ho⟩:=h
   simp only [tpI,tlI,h,ho,abR,acj,adS,aaf,amM,alj,bnd,Bool.not_true,Bool.false_eq_true,if_true,if_false,Int.reduceEq,Int.reduceLE,acK,aqc]
   exact azl.ite (fun _ =>rfl) fun _ =>rfl
 | t3 s =>
  have h:=aB6 (w:=w) hK hk s hW
  revert h
  simp only [abu,abZ,aag,aer,bnd,Int.reduceEq,if_false]
  rcases aa8 w e s with ⟨r | ⟨c,y⟩,e'⟩<;>intro h
  ·simp only [aaY] at h
   simp only [h,bnd,Bool.not_false,if_true]
   rfl
  ·simp only [aaY] at h
   obtain ⟨x',h,ho⟩:=h
   simp only [h,ho,abR,acj,ac1,abt,ado,agn,agE,aej,an8,aaf,bnd,Bool.not_true,Bool.false_eq_true,if_true,if_false,Int.reduceEq,Int.reduceLE,acK,aqc]
   refine azl.ite (fun _ =>rfl) fun _ =>azl.ite (fun _ =>rfl) fun _ =>?_
   unfold apE
   by_cases h1:e'.c.workers=1
   ·rw [if_pos h1,if_pos h1]; rfl
   ·rw [if_neg h1,if_neg h1]; rfl
 | t4 s =>
  have h:=aAX (w:=w) hK.wk s hW
  have hn:=ayd (e:=e) (w:=w) s
  revert h hn
  simp only [abu,abZ,aag,aer,bnd,Int.reduceEq,if_false]
  rcases ajR w e s with ⟨r | ⟨c,y⟩,e'⟩<;>intro h hn
  ·simp only [aaY] at h
   simp only [h,bnd,Bool.not_false,if_true]
   rfl
  ·simp only [aaY] at h
   obtain ⟨x',h,ho⟩:=h
   have hnl:e'.l=e.l:=hn.l
   simp only [h,ho,abR,acj,aem,aej,akx,aaf,bnd,Bool.not_true,Bool.false_eq_true,if_true,if_false,Int.reduceEq,Int.reduceLE,acK,aqc,hnl]
   exact azl.ite (fun _ =>rfl) fun _ =>rfl
 | t5 s =>
  have h:=aAm (e:=e) (hK.q vi lv) s
  have hn:=axS (e:=e) (q:=aav e.l vi lv) s
  revert h hn
  simp only [abu,abZ,aag,aer,bnd,Int.reduceEq,if_false]
  rcases ahE (aav e.l vi lv) e s with ⟨r | ⟨c,y⟩,e'⟩<;>intro h hn
  ·simp only [aaY] at h
   simp only [h,bnd,Bool.not_false,if_true]
   rfl
  ·simp only [aaY] at h
   obtain ⟨x',h,ho⟩:=h
   have hnl:e'.l=e.l:=hn.l
   have hl':e'.evs.length≤999999999:=by have h1:e'.evs.length≤e.evs.length+0:=hn.ev; have:=hK.ev; omega
   simp only [h,ho,abR,aep,ac1,aa0,ado,ahY,afx,akx,acE hl',aaf,bnd,Bool.not_true,Bool.false_eq_true,if_true,if_false,Int.reduceEq,Int.reduceLE,acK,hnl]
   exact azl.ite (fun _ =>by simp only [azl,EnvP.em,hnl]) fun _ =>azl.ite (fun _ =>rfl) fun _ =>rfl
 | t6 =>
  obtain ⟨x',h,ho⟩:=anz (w:=w) (t:=x) hl hK.st
  simp only [tpI,tlI,abu,abZ,aag,aer,h,abR,adS,aa0,aaf,amM,bnd,Bool.not_true,Bool.false_eq_true,if_true,if_false,Int.reduceEq,Int.reduceLE]
  rcases Bool.eq_false_or_eq_true (adk x e) with hc | hc
  ·simp only [hc,if_true] at ho ⊢
   simp only [ho,if_true]
   rfl
  ·simp only [hc,Bool.false_eq_true,if_false] at ho ⊢
   simp only [ho,Int.reduceEq,if_false]
   rfl
 | t7 s =>
  have h:=aGU (w:=w) hK hk s ⟨hW.1,by have:=hW.2; omega⟩
  revert h
  simp only [abu,abZ,aag,aer,bnd,Int.reduceEq,if_false]
  rcases awb w e s with ⟨r | ⟨c,y⟩,e'⟩<;>intro h
  ·simp only [aaY] at h
   simp only [h,bnd,Bool.not_false,if_true]
   rfl
  ·simp only [aaY] at h
   obtain ⟨x',h,ho⟩:=h
   simp only [h,ho,abR,aa0,bnd,Bool.not_true,Bool.false_eq_true,if_true,if_false,Int.reduceEq,Int.reduceLE]
   rfl
 | t8 s =>
  have h:=aAz (w:=w) hl s
  revert h
  simp only [abu,abZ,aag,aer,bnd,Int.reduceEq,if_false]
  rcases adN w e s with ⟨r | ⟨c,y⟩,e'⟩<;>intro h
  ·simp only [aaY] at h
   simp only [h,bnd,Bool.not_false,if_true]
   rfl
  ·simp only [aaY] at h
   obtain ⟨x',h,ho⟩:=h
   simp only [h,ho,abR,aa0,bnd,Bool.not_true,Bool.false_eq_true,if_true,if_false,Int.reduceEq,Int.reduceLE]
   rfl
 | t9 s =>
  have h:=auV (e:=e) (a:=aaI e.l vi) (b:=lv) (q:=aav e.l vi lv) s
  revert h
  simp only [abu,abZ,aag,aer,bnd,Int.reduceEq,if_false]
  rcases afw (aaI e.l vi) lv (aav e.l vi lv) e s with ⟨r | ⟨c,y⟩,e'⟩<;>intro h
  ·simp only [aaY] at h
   simp only [h,bnd,Bool.not_false,if_true]
   rfl
  ·simp only [aaY] at h
   obtain ⟨x',h,ho⟩:=h
   simp only [h,ho,abR,aa0,bnd,Bool.not_true,Bool.false_eq_true,if_true,if_false,Int.reduceEq,Int.reduceLE]
   rfl
theorem aqe {k:WorkS}:abZ w e k≠.top:=by
 unfold abZ
 split
 ·split<;>intro h<;>cases h
 ·rename_i h
  intro h2
  exact h h2
theorem axJ (hK:EOk K e) (hk:K≤100000000) (k:WorkS) (hW:ahZ K (abJ e) k):azl e.l w (aag (ah0 e.l w k) e) (abu w e k):=by
 obtain ⟨cur,vi,lv,x,c⟩:=k
 cases c with
 | top =>
  have h1:=auz (w:=w) hK hk ⟨cur,vi,lv,x,abZ w e ⟨cur,vi,lv,x,.top⟩⟩ (show abZ w e ⟨cur,vi,lv,x,.top⟩≠.top from aqe) (by
   unfold abZ
   simp only
   split<;>trivial)
  have h2:abu w e ⟨cur,vi,lv,x,abZ w e ⟨cur,vi,lv,x,.top⟩⟩=abu w e ⟨cur,vi,lv,x,.top⟩:=by
   unfold abZ
   simp only
   by_cases ha:e.c.age=0
   ·simp only [abu,abZ,ha,if_true]
   ·simp only [abu,abZ,ha,if_false]
  rw [h2] at h1
  unfold azl at h1 ⊢
  rw [← h1]
  exact aDt
 | _ =>exact auz hK hk _ (fun h =>by cases h) hW
end
@[reducible] def aCm (me id : Int) (s : Sub) : ClieC → Int × MV × Bool
 | .n1 =>(1,.nil,true)
 | .a1 =>(1,.attempt ⟨o0,me,false⟩,false)
 | .n2 =>(2,.nil,true)
 | .n3 =>(3,.nil,true)
 | .n4 =>(4,.nil,true)
 | .n5 =>(5,.nil,true)
 | .n6 =>(6,.nil,true)
 | .a6 t =>(6,.insert (atB s.deadline id t),false)
 | .n7 =>(7,.nil,true)
 | .n8 =>(8,.nil,true)
 | .n9 =>(9,.nil,true)
 | .a9 t =>(9,.wake (auD me s.level t),false)
@[reducible] def arw (subs : List Sub) (me : Int) (k : ClieS) : ClientV MV :=
 ⟨subs,me,k.i,(aCm me k.id (ac5 subs k.i) k.c).1,(aCm me k.id (ac5 subs k.i) k.c).2.1,(aCm me k.id (ac5 subs k.i) k.c).2.2,k.id,k.acc⟩
def aIR (subs:List Sub) (me:Int) (res:Option ((Bool×Unit)×(ClientV MV×EnvP×Unit))) (r:Bool×ClieS×EnvP):Prop:=res=some ((r.1,()),(arw subs me r.2.1,r.2.2,()))
def arO (subs:List Sub) (me i id ln:Int):MV :=
 if ln=1 then .attempt ⟨o0,me,false⟩ else if ln=3 then .alloc ⟨o0⟩ else if ln=6 then .insert ⟨o0,(ac5 subs i).deadline,id,1,0,0,0,0⟩ else if ln=8 then .release ⟨o0⟩ else if ln=9 then .wake ⟨o0,me,(ac5 subs i).level,1,0,0⟩ else .nil
section
variable [Tb] {K:Nat} {e:EnvP} {w:Int} {subs:List Sub} {me i id ln:Int} {m:MV} {f acc:Bool}
theorem ajr (hi:0≤i∧i<(subs.length:Int)) (h:1≤ln∧ln≤9):adQ ⟨subs,me,i,ln,m,f,id,acc⟩=some ((arO subs me i id ln,()),(⟨subs,me,i,ln,m,f,id,acc⟩,())):=by
 unfold adQ
 simp only [hi,and_self,if_true,al3,afK,aiw,agc,aed,bnd]
 rw [aaK (aao (show _∧_ by omega)),if_pos (by simp only [List.length_cons,List.length_nil]; omega)]
 have hv:ln=1∨ln=2∨ln=3∨ln=4∨ln=5∨ln=6∨ln=7∨ln=8∨ln=9:=by omega
 rcases hv with rfl | rfl | rfl | rfl | rfl | rfl | rfl | rfl | rfl<;>rfl
theorem aAy (x:AttemptV):(SR1.spl (MV.attempt x)).isNone=false:=rfl
theorem aGE (x:AllocV):(SR1.spl (MV.alloc x)).isNone=false:=rfl
theorem aAx (x:InsertV):(SR1.spl (MV.insert x)).isNone=false:=rfl
theorem aGD (x:ReleaseV):(SR1.spl (MV.release x)).isNone=false:=rfl
theorem aAu (x:WakeV):(SR1.spl (MV.wake x)).isNone=false:=rfl
theorem aIR.ite {c:Prop} [Decidable c] {a b:Option ((Bool×Unit)×(ClientV MV×EnvP×Unit))} {r s:Bool×ClieS×EnvP} (h1:c→aIR subs me a r) (h2:¬ c→aIR subs me b s):aIR subs me (if c then a else b) (if c then r else s):=by
 by_cases h:c
 ·rw [if_pos h,if_pos h]; exact h1 h
 ·rw [if_neg h,if_neg h]; exact h2 h
theorem ay6 (hK:EOk K e) (hk:K≤100000000) (k:ClieS) (hi0:0≤k.i):aIR subs me (aaq (arw subs me k) e) (ajJ subs me e k):=by
 have hl:e.evs.length≤999999999:=by have:=hK.ev; omega
 obtain ⟨i,id,acc,c⟩:=k
 have hi0:0≤i:=hi0
 unfold ajJ
 by_cases hov:(subs.length:Int)≤i
 ·rw [if_pos hov]
  simp only [aaq,aas,hov,decide_true,bnd,if_true]
  rfl
 rw [if_neg hov]
 have hi:0≤i∧i<(subs.length:Int):=by omega
 have hm:∀ m v,aeV { e with m:=m } v=some ((),({ e with m:=m,evs:=e.evs++[v] },())):=fun m v =>acE (e:={ e with m:=m }) hl
 cases c with
 | n1 =>
  obtain ⟨dn,x',h,ho,hd,hx⟩:=atx (e:=e) (w:=me) (b:=false)
  rw [Bool.or_false] at hd
  simp only [o0] at h hx
  simp only [abf,aaq,aas,hov,decide_false,bnd,Bool.not_true,Bool.not_false,Bool.false_eq_true,if_true,if_false,Int.reduceEq,ajr hi (show (1:Int)≤1∧(1:Int)≤9 by decide),arO,aAy,aer,abR,h]
  rcases Bool.eq_false_or_eq_true (e.hit 1 0) with hh | hh
  ·rw [hh] at hd
   subst hd
   have ho:=ho rfl
   simp only [hh,if_true] at ho ⊢
   simp only [ho,hi,and_self,aaW,aam,bnd,Bool.not_true,Bool.not_false,Bool.false_eq_true,if_true,if_false,Int.reduceEq]
   rfl
  ·rw [hh] at hd
   subst hd
   have hx:=hx rfl
   simp only [hh,hx,bnd,Bool.not_true,Bool.not_false,Bool.false_eq_true,if_true,if_false,Int.reduceEq]
   rfl
 | a1 =>
  obtain ⟨dn,x',h,ho,hd,hx⟩:=atx (e:=e) (w:=me) (b:=false)
  rw [Bool.or_false] at hd
  simp only [o0] at h hx
  simp only [abf,aaq,aas,hov,decide_false,bnd,Bool.not_true,Bool.not_false,Bool.false_eq_true,if_true,if_false,Int.reduceEq,aAy,aer,abR,h,o0]
  rcases Bool.eq_false_or_eq_true (e.hit 1 0) with hh | hh
  ·rw [hh] at hd
   subst hd
   have ho:=ho rfl
   simp only [hh,if_true] at ho ⊢
   simp only [ho,hi,and_self,aaW,aam,bnd,Bool.not_true,Bool.not_false,Bool.false_eq_true,if_true,if_false,Int.reduceEq]
   rfl
  ·rw [hh] at hd
   subst hd
   have hx:=hx rfl
   simp only [hh,hx,bnd,Bool.not_true,Bool.not_false,Bool.false_eq_true,if_true,if_false,Int.reduceEq]
   rfl
 | n2 =>
  simp only [abf,aaq,aas,hov,decide_false,bnd,Bool.not_true,Bool.not_false,Bool.false_eq_true,if_true,if_false,Int.reduceEq,ajr hi (show (1:Int)≤2∧(2:Int)≤9 by decide),arO,alV,abe,hi,and_self,ahQ,abU,acJ,aam,hm]
  rw [acK]
  exact aIR.ite (fun _ =>rfl) fun _ =>rfl
 | n3 =>
  obtain ⟨x',h,ho⟩:=av5 (e:=e)
  simp only [abf,aaq,aas,hov,decide_false,bnd,Bool.not_true,Bool.not_false,Bool.false_eq_true,if_true,if_false,Int.reduceEq,ajr hi (show (1:Int)≤3∧(3:Int)≤9 by decide),arO,aGE,aer,abR,h,aaW,acJ,aam,hi,and_self]
  by_cases ci:IsT e (wi (e.gt 0))
  ·rw [if_pos ci] at ho ⊢
   have hv:0≤wi (e.gt 0)∧wi (e.gt 0)<((ab6 e).recs.length:Int):=⟨ci.1,by have:=ci.2; have:=hK.ct; show _<(e.recs.length:Int); omega⟩
   simp only [ho,Int.reduceEq,if_false,hv,and_self,if_true]
   rfl
  ·rw [if_neg ci] at ho ⊢
   simp only [ho,if_true,acE (e:=ab6 e) hl,bnd]
   rfl
 | n4 =>
  simp only [abf,aaq,aas,hov,decide_false,bnd,Bool.not_true,Bool.not_false,Bool.false_eq_true,if_true,if_false,Int.reduceEq,ajr hi (show (1:Int)≤4∧(4:Int)≤9 by decide),arO,alV,abe,hi,and_self,agC,abN,aam]
  rfl
 | n5 =>
  simp only [abf,aaq,aas,hov,decide_false,bnd,Bool.not_true,Bool.not_false,Bool.false_eq_true,if_true,if_false,Int.reduceEq,ajr hi (show (1:Int)≤5∧(5:Int)≤9 by decide),arO,alV,abe,hi,and_self,aku,aux,abN,aam]
  rfl
 | n6 =>
  have h:=ask (e:=e) (d:=(ac5 subs i).deadline) (t:=id) .l1
  have hn:=anl (e:=e) (d:=(ac5 subs i).deadline) (t:=id) .l1
  revert h hn
  simp only [abf,aaq,aas,hov,decide_false,bnd,Bool.not_true,Bool.not_false,Bool.false_eq_true,if_true,if_false,Int.reduceEq,ajr hi (show (1:Int)≤6∧(6:Int)≤9 by decide),arO,aAx,aer,abR,o0]
  rcases acf (ac5 subs i).deadline id e .l1 with ⟨r | ⟨c,y⟩,e'⟩<;>intro h hn
  ·simp only [aaY,o0] at h
   simp only [h,bnd,Bool.not_false,if_true]
   rfl
  ·simp only [aaY,o0] at h
   obtain ⟨x',h,ho⟩:=h
   have hl':e'.evs.length≤999999999:=by have h1:e'.evs.length≤e.evs.length+0:=hn.ev; have:=hK.ev; omega
   simp only [h,ho,aaW,aam,hi,and_self,acE hl',bnd,Bool.not_true,Bool.not_false,Bool.false_eq_true,if_true,if_false,Int.reduceEq,ne_eq]
   by_cases hc:c=0
   ·simp only [hc,not_true,if_true,if_false]; rfl
   ·simp only [hc,not_false_eq_true,if_true,if_false]; rfl
 | a6 t =>
  have h:=ask (e:=e) (d:=(ac5 subs i).deadline) (t:=id) t
  have hn:=anl (e:=e) (d:=(ac5 subs i).deadline) (t:=id) t
  revert h hn
  simp only [abf,aaq,aas,hov,decide_false,bnd,Bool.not_true,Bool.not_false,Bool.false_eq_true,if_true,if_false,Int.reduceEq,aAx,aer,abR]
  rcases acf (ac5 subs i).deadline id e t with ⟨r | ⟨c,y⟩,e'⟩<;>intro h hn
  ·simp only [aaY] at h
   simp only [h,bnd,Bool.not_false,if_true]
   rfl
  ·simp only [aaY] at h
   obtain ⟨x',h,ho⟩:=h
   have hl':e'.evs.length≤999999999:=by have h1:e'.evs.length≤e.evs.length+0:=hn.ev; have:=hK.ev; omega
   simp only [h,ho,aaW,aam,hi,and_self,acE hl',bnd,Bool.not_true,Bool.not_false,Bool.false_eq_true,if_true,if_false,Int.reduceEq,ne_eq]
   by_cases hc:c=0
   ·simp only [hc,not_true,if_true,if_false]; rfl
   ·simp only [hc,not_false_eq_true,if_true,if_false]; rfl
 | n7 =>
  simp only [abf,aaq,aas,hov,decide_false,bnd,Bool.not_true,Bool.not_false,Bool.false_eq_true,if_true,if_false,Int.reduceEq,ajr hi (show (1:Int)≤7∧(7:Int)≤9 by decide),arO,alV,abe,hi,and_self,afS,abN,aam]
  rfl
 | n8 =>
  obtain ⟨x',h,ho⟩:=ayO (e:=e)
  simp only [abf,aaq,aas,hov,decide_false,bnd,Bool.not_true,Bool.not_false,Bool.false_eq_true,if_true,if_false,Int.reduceEq,ajr hi (show (1:Int)≤8∧(8:Int)≤9 by decide),arO,aGD,aer,abR,h,aaW,adr,aas,aam,hi,and_self]
  cases acc<;>rfl
 | n9 =>
  have h:=amn (e:=e) (w:=me) (v:=(ac5 subs i).level) hl (.l1 0)
  revert h
  simp only [abf,aaq,aas,hov,decide_false,bnd,Bool.not_true,Bool.not_false,Bool.false_eq_true,if_true,if_false,Int.reduceEq,ajr hi (show (1:Int)≤9∧(9:Int)≤9 by decide),arO,aAu,aer,abR,o0]
  rcases aez me (ac5 subs i).level e (.l1 0) with ⟨r | ⟨c,y⟩,e'⟩<;>intro h
  ·simp only [aaY,o0] at h
   simp only [h,bnd,Bool.not_false,if_true]
   rfl
  ·simp only [aaY,o0] at h
   obtain ⟨x',h,ho⟩:=h
   simp only [h,ho,aaW,adr,aas,aam,hi,and_self,bnd,Bool.not_true,Bool.not_false,Bool.false_eq_true,if_true,if_false,Int.reduceEq]
   rfl
 | a9 t =>
  have h:=amn (e:=e) (w:=me) (v:=(ac5 subs i).level) hl t
  revert h
  simp only [abf,aaq,aas,hov,decide_false,bnd,Bool.not_true,Bool.not_false,Bool.false_eq_true,if_true,if_false,Int.reduceEq,aAu,aer,abR]
  rcases aez me (ac5 subs i).level e t with ⟨r | ⟨c,y⟩,e'⟩<;>intro h
  ·simp only [aaY] at h
   simp only [h,bnd,Bool.not_false,if_true]
   rfl
  ·simp only [aaY] at h
   obtain ⟨x',h,ho⟩:=h
   simp only [h,ho,aaW,adr,aas,aam,hi,and_self,bnd,Bool.not_true,Bool.not_false,Bool.false_eq_true,if_true,if_false,Int.reduceEq]
   rfl
theorem aoN (hK:EOk K e) (k:WorkS) (hc:k.c≠.top):Stp 2 e (abu w e k).2:=by
 obtain ⟨cur,vi,lv,x,c⟩:=k
 cases c with
 | top =>exact absurd rfl hc
 | t1 t s =>
  have h:=aDk (e:=e) (w:=w) (t:=t) s
  revert h
  simp only [abu,abZ]
  rcases abh w t e s with ⟨r | ⟨c,y⟩,e'⟩<;>intro h
  ·exact h.le (by decide)
  ·exact h.le (by decide)
 | t2 s =>
  have h:=aGk (w:=w) (fun t =>hK.st) s
  revert h
  simp only [abu,abZ]
  rcases akg w e s with ⟨r | ⟨c,y⟩,e'⟩<;>intro h
  ·exact h.le (by decide)
  ·exact h.le (by decide)
 | t3 s =>
  have h:=aET (e:=e) (w:=w) s
  revert h
  simp only [abu,abZ]
  rcases aa8 w e s with ⟨r | ⟨c,y⟩,e'⟩<;>intro h
  ·exact h.le (by decide)
  ·exact h.le (by decide)
 | t4 s =>
  have h:=ayd (e:=e) (w:=w) s
  revert h
  simp only [abu,abZ]
  rcases ajR w e s with ⟨r | ⟨c,y⟩,e'⟩<;>intro h
  ·exact h.le (by decide)
  ·exact h.le (by decide)
 | t5 s =>
  have h:=axS (e:=e) (q:=aav e.l vi lv) s
  revert h
  simp only [abu,abZ]
  rcases ahE (aav e.l vi lv) e s with ⟨r | ⟨c,y⟩,e'⟩<;>intro h
  ·exact h.le (by decide)
  ·simp only
   split
   ·exact Stp.le (Stp.em h) (by decide)
   ·split<;>exact Stp.le h (by decide)
 | t6 =>exact (anA (w:=w) (t:=x) hK.st).le (by decide)
 | t7 s =>
  have h:=aJf (w:=w) hK s
  revert h
  simp only [abu,abZ]
  rcases awb w e s with ⟨r | ⟨c,y⟩,e'⟩<;>intro h
  ·exact h.le (by decide)
  ·exact h.le (by decide)
 | t8 s =>
  have h:=aDy (e:=e) (w:=w) s
  revert h
  simp only [abu,abZ]
  rcases adN w e s with ⟨r | ⟨c,y⟩,e'⟩<;>intro h
  ·exact h.le (by decide)
  ·exact h.le (by decide)
 | t9 s =>
  have h:=ax4 (e:=e) (a:=aaI e.l vi) (b:=lv) (q:=aav e.l vi lv) s
  revert h
  simp only [abu,abZ]
  rcases afw (aaI e.l vi) lv (aav e.l vi lv) e s with ⟨r | ⟨c,y⟩,e'⟩<;>intro h
  ·exact h.le (by decide)
  ·exact h.le (by decide)
theorem auA {cur vi lv x:Int}:abu w e ⟨cur,vi,lv,x,abZ w e ⟨cur,vi,lv,x,.top⟩⟩=abu w e ⟨cur,vi,lv,x,.top⟩:=by
 unfold abZ
 simp only
 by_cases ha:e.c.age=0
 ·simp only [abu,abZ,ha,if_true]
 ·simp only [abu,abZ,ha,if_false]
theorem az5 (hK:EOk K e) (k:WorkS):Stp 2 e (abu w e k).2:=by
 obtain ⟨cur,vi,lv,x,c⟩:=k
 cases c with
 | top =>
  rw [← auA]
  exact aoN hK _ (show abZ w e ⟨cur,vi,lv,x,.top⟩≠.top from aqe)
 | _ =>exact aoN hK _ (fun h =>by cases h)
theorem aoM (hK:EOk K e) (k:WorkS) (hc:k.c≠.top) (hW:ahZ K (abJ e) k) (hK1:1≤K):ahZ (K+1) (abJ e) (abu w e k).1:=by
 obtain ⟨cur,vi,lv,x,c⟩:=k
 have hr0:∀ t,aK4 (K+1) (aGW t):=fun t =>⟨by simp [aGW],by simp [aGW]⟩
 cases c with
 | top =>exact absurd rfl hc
 | t1 t s =>
  simp only [abu,abZ]
  split<;>trivial
 | t2 s =>
  simp only [abu,abZ]
  split
  ·trivial
  ·simp only
   split
   ·exact hr0 _
   ·exact (rfl:aB8.direct=false)
 | t3 s =>
  simp only [abu,abZ]
  split
  ·rename_i h; exact aES hW h
  ·simp only
   split
   ·trivial
   ·split
    ·trivial
    ·unfold ahZ apE
     simp only
     split<;>first | trivial | (rename_i h; split at h<;>cases h; trivial) | (rename_i h; split at h<;>cases h)
 | t4 s =>
  simp only [abu,abZ]
  split
  ·rename_i h; exact aDT hK.wk hW h
  ·simp only
   split<;>trivial
 | t5 s =>
  simp only [abu,abZ]
  split
  ·trivial
  ·split
   ·trivial
   ·split<;>trivial
 | t6 =>
  simp only [abu,abZ]
  split
  ·exact hr0 _
  ·trivial
 | t7 s =>
  simp only [abu,abZ]
  split
  ·rename_i h
   have h1:=aJe hW.1 h
   exact ⟨h1.1,by have:=hW.2; omega⟩
  ·trivial
 | t8 s =>
  simp only [abu,abZ]
  split<;>trivial
 | t9 s =>
  simp only [abu,abZ]
  split<;>trivial
theorem az4 (hK:EOk K e) (k:WorkS) (hW:ahZ K (abJ e) k) (hK1:1≤K):ahZ (K+1) (abJ e) (abu w e k).1:=by
 obtain ⟨cur,vi,lv,x,c⟩:=k
 cases c with
 | top =>
  rw [← auA]
  refine aoM hK _ (show abZ w e ⟨cur,vi,lv,x,.top⟩≠.top from aqe) ?_ hK1
  unfold abZ
  simp only
  split<;>trivial
 | _ =>exact aoM hK _ (fun h =>by cases h) hW hK1
theorem aCj (hK:EOk K e) (k:ClieS):Stp 2 e (ajJ subs me e k).2.2:=by
 obtain ⟨i,id,acc,c⟩:=k
 unfold ajJ
 split
 ·exact Stp.refl.le (by decide)
 cases c with
 | n1 =>exact Stp.le aw2 (by decide)
 | a1 =>exact Stp.le aw2 (by decide)
 | n2 =>
  simp only [abf]
  split
  ·exact Stp.le (Stp.em Stp.lk) (by decide)
  ·exact Stp.le Stp.lk (by decide)
 | n3 =>
  simp only [abf]
  split
  ·exact Stp.le (Stp.pr ap9 fun K h =>Nat.zero_le _) (by decide)
  ·exact Stp.le (Stp.em ap9) (by decide)
 | n4 =>exact Stp.le (Stp.pt (by decide)) (Nat.zero_le _)
 | n5 =>exact Stp.le (Stp.pt (by decide)) (Nat.zero_le _)
 | n6 =>
  have h:=anl (e:=e) (d:=(ac5 subs i).deadline) (t:=id) .l1
  revert h
  simp only [abf]
  rcases acf (ac5 subs i).deadline id e .l1 with ⟨r | ⟨c,y⟩,e'⟩<;>intro h
  ·exact Stp.le h (by decide)
  ·simp only
   split
   ·exact Stp.le (Stp.em h) (by decide)
   ·exact Stp.le h (by decide)
 | a6 t =>
  have h:=anl (e:=e) (d:=(ac5 subs i).deadline) (t:=id) t
  revert h
  simp only [abf]
  rcases acf (ac5 subs i).deadline id e t with ⟨r | ⟨c,y⟩,e'⟩<;>intro h
  ·exact Stp.le h (by decide)
  ·simp only
   split
   ·exact Stp.le (Stp.em h) (by decide)
   ·exact Stp.le h (by decide)
 | n7 =>exact Stp.le (Stp.pt (by decide)) (Nat.zero_le _)
 | n8 =>
  simp only [abf]
  split
  ·exact Stp.le axb (by decide)
  ·exact Stp.le (show Stp 0 e (aCl subs _ (atG e)).2.2 from axb) (by decide)
 | n9 =>
  have h:=aqf (e:=e) (w:=me) (v:=(ac5 subs i).level) (.l1 0)
  revert h
  simp only [abf]
  rcases aez me (ac5 subs i).level e (.l1 0) with ⟨r | ⟨c,y⟩,e'⟩<;>intro h<;>exact Stp.le h (by decide)
 | a9 t =>
  have h:=aqf (e:=e) (w:=me) (v:=(ac5 subs i).level) t
  revert h
  simp only [abf]
  rcases aez me (ac5 subs i).level e t with ⟨r | ⟨c,y⟩,e'⟩<;>intro h<;>exact Stp.le h (by decide)
end
end
section
open Go Go.RowKit
set_option maxRecDepth 100000
variable [Tb]
structure Dl where
 ad:Option (Int×Int)
 v:Int
 rd:List Int
 rs:List (Int×RecP)
 es:List Ev
def asT (l:List RecP) (rs:List (Int×RecP)):List RecP:=rs.foldl (fun l p =>l.set p.1.toNat p.2) l
def azU (l es:List Ev):List Ev:=es.foldl (fun l x =>l++[x]) l
def Dl.mem (D:Dl) (m:MemV):MemV:=match D.ad with
 | none =>m
 | some (k,a) =>m.pt k a D.v
def ap (D:Dl) (e:EnvP):EnvP:={ e with m:=D.mem e.m,recs:=asT e.recs D.rs,evs:=azU e.evs D.es }
def aFi (es:List Ev) (e:EnvP):EnvP:={ e with evs:=azU e.evs es }
structure Bs (e f:EnvP):Prop where
 c:f.c=e.c
 l:f.l=e.l
 k:f.k=e.k
 n:f.m.cells.length=e.m.cells.length
 r:f.recs.length=e.recs.length
structure Ag (D:Dl) (e f:EnvP):Prop where
 b:Bs e f
 g:∀ k a,D.ad=some (k,a)→f.m.gt a=e.m.gt a
 q:∀ t∈D.rd,f.rc t=e.rc t
def Loc {X:Type} (P:Dl→Prop) (S:EnvP→X×EnvP) (e:EnvP):Prop:=∃ s D,S e=(s,ap D e)∧P D∧∀ f,Ag D e f→S f=(s,ap D f)
def aFn (e:EnvP) (D:Dl):Prop:=∀ k a,D.ad=some (k,a)→(k=1∧D.v=e.m.gt a)∨2≤k
structure Lf (e:EnvP) (w:Int) (D:Dl):Prop where
 rd:D.rd=[]
 rs:D.rs=[]
 es:∀ x∈D.es,x.worker=w
 k:aFn e D
section
variable {e f:EnvP} {X Y σ:Type} {S:EnvP→X×EnvP} {T:EnvP→Y×EnvP} {P:Dl→Prop} {w k a v:Int} {s:X}
theorem Bs.refl:Bs e e:=⟨rfl,rfl,rfl,rfl,rfl⟩
theorem Bs.hit (b:Bs e f) {o:Int} (g:f.m.gt a=e.m.gt a):f.m.hit a o=e.m.hit a o:=by
 unfold MemV.hit MemV.gt at *
 rw [b.n] at *
 by_cases h:0≤a∧a<(e.m.cells.length:Int)
 ·rw [if_pos h,if_pos h] at g; rw [g]
 ·rw [decide_eq_false (fun k =>h k.1),decide_eq_false (fun k =>h k.1)]
theorem aFh {l a b:List Ev}:azU l (a++b)=azU (azU l a) b:=List.foldl_append
theorem amg:∀ {es l:List Ev},azU l es=l++es
 | [],l =>(List.append_nil l).symm
 | x::es,l =>by
  show azU (l++[x]) es=_
  rw [amg,List.append_assoc]; rfl
theorem aKd {es:List Ev} (g:f.m.gt a=e.m.gt a):aFi es (f.lk a)=ap ⟨some (1,a),e.m.gt a,[],[],es⟩ f:=by
 unfold EnvP.lk; rw [show f.m.gt a=e.m.gt a from g]; rfl
theorem ay9 {es:List Ev} {o:Int} (g:f.m.gt a=e.m.gt a):aFi es (f.cas a o v)=ap ⟨some (3,a),if e.m.gt a=o then v else e.m.gt a,[],[],es⟩ f:=by
 unfold EnvP.cas MemV.cas; rw [g]; rfl
theorem Loc.ldE {es:List Ev} (hx:∀ x∈es,x.worker=w) (h:∀ f,Bs e f→f.m.gt a=e.m.gt a→S f=(s,aFi es (f.lk a))):Loc (Lf e w) S e :=
 ⟨s,_,(h e .refl rfl).trans (by rw [aKd rfl]),⟨rfl,rfl,hx,fun _ _ q =>.inl (by cases q; exact ⟨rfl,rfl⟩)⟩,fun f b =>(h f b.b (b.g _ _ rfl)).trans (by rw [aKd (b.g _ _ rfl)])⟩
theorem Loc.ptE {es:List Ev} (hk:2≤k) (hx:∀ x∈es,x.worker=w) (h:∀ f,Bs e f→f.m.gt a=e.m.gt a→S f=(s,aFi es (f.pt k a v))):Loc (Lf e w) S e :=
 ⟨s,⟨some (k,a),v,[],[],es⟩,h e .refl rfl,⟨rfl,rfl,hx,fun _ _ q =>.inr (by cases q; exact hk)⟩,fun f b =>h f b.b (b.g _ _ rfl)⟩
theorem Loc.csE {o:Int} {es:List Ev} (hx:∀ x∈es,x.worker=w) (h:∀ f,Bs e f→f.m.gt a=e.m.gt a→S f=(s,aFi es (f.cas a o v))):Loc (Lf e w) S e :=
 ⟨s,_,(h e .refl rfl).trans (by rw [ay9 rfl]),⟨rfl,rfl,hx,fun _ _ q =>.inr (by cases q; decide)⟩,fun f b =>(h f b.b (b.g _ _ rfl)).trans (by rw [ay9 (b.g _ _ rfl)])⟩
theorem aj3:∀ x∈([]:List Ev),x.worker=w:=fun _ h =>by cases h
theorem ah8 {x:Ev} (h:x.worker=w):∀ y∈[x],y.worker=w:=fun y hy =>by rw [List.mem_singleton.1 hy]; exact h
theorem Loc.ld (_:S e=(s,e.lk a)) (h:∀ f,Bs e f→f.m.gt a=e.m.gt a→S f=(s,f.lk a)):Loc (Lf e w) S e:=.ldE aj3 fun f b g =>(h f b g).trans rfl
theorem Loc.pt (_:S e=(s,e.pt k a v)) (h:∀ f,Bs e f→f.m.gt a=e.m.gt a→S f=(s,f.pt k a v)) (hk:2≤k:=by decide):Loc (Lf e w) S e:=.ptE hk aj3 fun f b g =>(h f b g).trans rfl
theorem Loc.cs {o:Int} (_:S e=(s,e.cas a o v)) (h:∀ f,Bs e f→f.m.gt a=e.m.gt a→S f=(s,f.cas a o v)):Loc (Lf e w) S e:=.csE aj3 fun f b g =>(h f b g).trans rfl
theorem Loc.ld1 {k' w' t' o' l':Int} (_:S e=(s,(e.lk a).em k' w' t' o' l')) (hw:w'=w) (h:∀ f,Bs e f→f.m.gt a=e.m.gt a→S f=(s,(f.lk a).em k' w' t' o' l')):Loc (Lf e w) S e:=.ldE (es:=[⟨k',w',t',o',l'⟩]) (ah8 hw) fun f b g =>(h f b g).trans rfl
theorem Loc.pt1 {k' w' t' o' l':Int} (_:S e=(s,(e.pt k a v).em k' w' t' o' l')) (hw:w'=w) (h:∀ f,Bs e f→f.m.gt a=e.m.gt a→S f=(s,(f.pt k a v).em k' w' t' o' l')) (hk:2≤k:=by decide):Loc (Lf e w) S e:=.ptE hk (es:=[⟨k',w',t',o',l'⟩]) (ah8 hw) fun f b g =>(h f b g).trans rfl
theorem Loc.cs1 {o k' w' t' o' l':Int} (_:S e=(s,(e.cas a o v).em k' w' t' o' l')) (hw:w'=w) (h:∀ f,Bs e f→f.m.gt a=e.m.gt a→S f=(s,(f.cas a o v).em k' w' t' o' l')):Loc (Lf e w) S e:=.csE (es:=[⟨k',w',t',o',l'⟩]) (ah8 hw) fun f b g =>(h f b g).trans rfl
theorem Loc.a0 (_:S e=(s,e)) (h:∀ f,Bs e f→S f=(s,f)):Loc (Lf e w) S e :=
 ⟨s,⟨none,0,[],[],[]⟩,h e .refl,⟨rfl,rfl,aj3,fun _ _ q =>by cases q⟩,fun f b =>h f b.b⟩
theorem Loc.map {S:EnvP→X×EnvP} (h:Loc (Lf e w) S e) (y:X→Y) (x:X→List Ev) (hx:∀ s,∀ z∈x s,z.worker=w) (hT:∀ f,Bs e f→T f=(y (S f).1,aFi (x (S f).1) (S f).2)):Loc (Lf e w) T e:=by
 obtain ⟨s,D,h1,h2,h3⟩:=h
 have g:∀ f,Bs e f→S f=(s,ap D f)→T f=(y s,ap { D with es:=D.es++x s } f):=fun f b hf =>by
  rw [hT f b,hf]
  show (y s,aFi (x s) (ap D f))=_
  unfold aFi ap
  simp only [aFh]
  rfl
 refine ⟨y s,{ D with es:=D.es++x s },g e .refl h1,⟨h2.rd,h2.rs,fun z hz =>?_,h2.k⟩,fun f hf =>g f hf.b (h3 f ⟨hf.b,hf.g,hf.q⟩)⟩
 rcases List.mem_append.1 hz with k | k
 ·exact h2.es z k
 ·exact hx s z k
theorem avi {q:QV} (s:OPushS):Loc (Lf e w) (fun e =>ae3 q v e s) e:=by
 cases s with
 | l1 =>exact .ld rfl fun f b g =>by simp only [ae3,EnvP.gt,g]
 | l2 b =>exact .ld rfl fun f b g =>by simp only [ae3,EnvP.gt,g]
 | l3 b =>exact .pt rfl fun f b g =>rfl
 | l4 b =>exact .pt rfl fun f b g =>rfl
theorem aD8 {q:QV} (s:OPopS):Loc (Lf e w) (fun e =>al0 q e s) e:=by
 cases s with
 | l3 b t =>exact .pt rfl fun f b g =>rfl
 | l6 b t =>exact .cs rfl fun f b g =>by simp only [al0,EnvP.hit,b.hit g]
 | l7 b t =>exact .pt rfl fun f b g =>rfl
 | l9 b t =>exact .pt rfl fun f b g =>rfl
 | _ =>exact .ld rfl fun f b g =>by simp only [al0,EnvP.gt,g]
theorem aAn {q:QV} (s:StealS):Loc (Lf e w) (fun e =>ahE q e s) e:=by
 cases s with
 | l4 t x =>exact .cs rfl fun f b g =>by simp only [ahE,EnvP.hit,b.hit g]
 | _ =>exact .ld rfl fun f b g =>by simp only [ahE,EnvP.gt,g]
theorem auW {q:QV} {x y:Int} (s:ResetS):Loc (Lf e w) (fun e =>afw x y q e s) e:=by
 cases s with
 | l1 =>exact .pt rfl fun f b g =>by simp only [afw,EnvP.gt,g]
 | l4 =>exact .pt rfl fun f b g =>by simp only [afw,EnvP.gt,g]
 | _ =>exact .ld rfl fun f b g =>by simp only [afw,EnvP.gt,g]
theorem ank (b:Bs e f) {t:Int}:IsT f t↔IsT e t:=by unfold IsT; rw [b.c]
theorem ayS (b:Bs e f) {t:Int}:aut f t v↔aut e t v:=by unfold aut; rw [b.c]
theorem awC {t x:Int} (s:PublishS):Loc (Lf e w) (fun e =>afR t x e s) e:=by
 by_cases h:IsT e t
 ·have h2:∀ f,Bs e f→¬ ¬ IsT f t:=fun f b k =>k ((ank b).2 h)
  cases s with
  | l1 =>exact .pt (if_neg (h2 e .refl)) fun f b g =>(if_neg (h2 f b)).trans (by simp only [b.l])
  | l2 =>exact .pt (if_neg (h2 e .refl)) fun f b g =>(if_neg (h2 f b)).trans (by simp only [b.l,b.k])
  | l3 =>exact .pt (if_neg (h2 e .refl)) fun f b g =>(if_neg (h2 f b)).trans (by simp only [b.l])
 ·exact .a0 (if_pos h) fun f b =>if_pos (fun k =>h ((ank b).1 k))
theorem asn {d t:Int} (s:InsertS):Loc (Lf e w) (fun e =>acf d t e s) e:=by
 cases s with
 | l1 =>exact .ld rfl fun f b g =>by simp only [acf,EnvP.gt,g,b.c]
 | l2 n =>exact .pt rfl fun f b g =>by simp only [acf,EnvP.gt,g]
 | l3 n i k x =>exact .ld rfl fun f b g =>by simp only [acf,EnvP.gt,b.l,g]
 | l4 n i k x =>exact .pt rfl fun f b g =>by simp only [acf,b.l]
 | l5 n i k x =>exact .pt rfl fun f b g =>by simp only [acf,b.l]
 | l6 n i k x =>exact .pt rfl fun f b g =>rfl
theorem azw (s:RemoveS):Loc (Lf e w) (fun e =>acP w e s) e:=by
 cases s with
 | l1 =>exact .ld rfl fun f b g =>by simp only [acP,EnvP.gt,g]
 | l4 n x y =>exact .pt1 rfl rfl fun f b g =>rfl
 | l7 n i c x y z =>exact .pt rfl fun f b g =>by simp only [acP,b.l]
 | l8 n i c x y z =>exact .pt rfl fun f b g =>by simp only [acP,b.l]
 | _ =>exact .ld rfl fun f b g =>by simp only [acP,EnvP.gt,b.l,g]
theorem asR (b:Bs e f):ag6 w f=ag6 w e:=by unfold ag6; rw [b.c,b.l]
theorem az8 (b:Bs e f) {j:Int}:alq v j f=alq v j e:=by unfold alq; rw [b.c,b.l]
theorem aAA (s:SleepS):Loc (Lf e w) (fun e =>adN w e s) e:=by
 cases s with
 | l1 =>exact .ld rfl fun f b g =>by simp only [adN,EnvP.gt,b.l,g]
 | l2 ep =>exact .pt rfl fun f b g =>by simp only [adN,EnvP.gt,asR b,g]
 | l3 ep =>exact .ld rfl fun f b g =>by simp only [adN,EnvP.gt,g]
 | l4 ep x =>
  by_cases h1:e.gt (aaI e.l x)≠0
  ·exact .ld (if_pos h1) fun f b g =>by simp only [adN,EnvP.gt,b.l,g]; exact if_pos h1
  by_cases h2:e.c.workers≤wi (x+1)
  ·exact .ld1 ((if_neg h1).trans (if_pos h2)) rfl fun f b g =>by simp only [adN,EnvP.gt,b.l,b.c,b.k,g]; exact (if_neg h1).trans (if_pos h2)
  ·exact .ld ((if_neg h1).trans (if_neg h2)) fun f b g =>by simp only [adN,EnvP.gt,b.l,b.c,g]; exact (if_neg h1).trans (if_neg h2)
 | l5 ep x y =>
  by_cases h1:e.gt (agK e.l w)≠ep
  ·exact .ld1 (if_pos h1) rfl fun f b g =>by simp only [adN,EnvP.gt,b.l,g]; exact if_pos h1
  by_cases h2:e.c.patience≤wi (e.k.now-y)
  ·exact .ld1 ((if_neg h1).trans (if_pos h2)) rfl fun f b g =>by simp only [adN,EnvP.gt,b.l,b.c,b.k,g]; exact (if_neg h1).trans (if_pos h2)
  ·exact .ld ((if_neg h1).trans (if_neg h2)) fun f b g =>by simp only [adN,EnvP.gt,b.l,b.c,b.k,g]; exact (if_neg h1).trans (if_neg h2)
 | l6 ep x y =>exact .pt rfl fun f b g =>by simp only [adN,EnvP.gt,asR b,g]
 | l7 ep x y =>exact .pt rfl fun f b g =>by simp only [adN,EnvP.gt,asR b,g]
theorem amo (s:WakeS):Loc (Lf e w) (fun e =>aez w v e s) e:=by
 cases s with
 | l1 j =>exact .ld rfl fun f b g =>by simp only [aez,EnvP.gt,az8 b,b.c,g]
 | l2 j x =>exact .pt rfl fun f b g =>by simp only [aez,EnvP.gt,az8 b,g]
 | l3 j x =>exact .pt1 rfl rfl fun f b g =>by simp only [aez,EnvP.gt,b.l,g]
theorem au5 {t:Int} (s:RaiseS):Loc (Lf e w) (fun e =>aeT w t v e s) e:=by
 by_cases h:aut e t v
 ·have h2:∀ f,Bs e f→¬ ¬ aut f t v:=fun f b k =>k ((ayS b).2 h)
  cases s with
  | l1 q =>exact .ld (if_neg (h2 e .refl)) fun f b g =>(if_neg (h2 f b)).trans (by simp only [EnvP.gt,b.l,g])
  | l2 q =>
   by_cases hh:e.hit (ab2 e.l t) q=true
   ·exact .cs1 ((if_neg (h2 e .refl)).trans (if_pos hh)) rfl fun f b g =>(if_neg (h2 f b)).trans (by simp only [EnvP.hit,b.l,b.hit g]; exact if_pos hh)
   ·exact .cs ((if_neg (h2 e .refl)).trans (if_neg hh)) fun f b g =>(if_neg (h2 f b)).trans (by simp only [EnvP.hit,b.l,b.hit g]; exact if_neg hh)
 ·exact .a0 (if_pos h) fun f b =>if_pos (fun k =>h ((ayS b).1 k))
end
section
variable {e f:EnvP} {X Y σ:Type} {T:EnvP→Y×EnvP} {w k a v:Int}
theorem Loc.m0 {S:EnvP→X×EnvP} (h:Loc (Lf e w) S e) (y:X→Y) (hT:∀ f,Bs e f→T f=(y (S f).1,(S f).2)):Loc (Lf e w) T e:=.map h y (fun _ =>[]) (fun _ =>aj3) fun f b =>(hT f b).trans rfl
theorem Loc.gfE {S:EnvP→Rs σ×EnvP} {A:σ→Y} {B:Int→Int→Y} {E:Int→Int→List Ev} (h:Loc (Lf e w) S e) (hE:∀ c x,∀ z∈E c x,z.worker=w) (h1:∀ f,Bs e f→∀ s e',S f=(.go s,e')→T f=(A s,e')) (h2:∀ f,Bs e f→∀ c x e',S f=(.fin c x,e')→T f=(B c x,aFi (E c x) e')):Loc (Lf e w) T e :=
 .map h (fun r =>match r with
  | .go s =>A s
  | .fin c x =>B c x) (fun r =>match r with
  | .go _ =>[]
  | .fin c x =>E c x) (fun s =>by
   cases s with
   | go _ =>exact aj3
   | fin c x =>exact hE c x) fun f b =>by
  generalize hS:S f=p
  obtain ⟨r,e'⟩:=p
  cases r with
  | go s =>exact h1 f b s e' hS
  | fin c x =>exact h2 f b c x e' hS
theorem Loc.gf {S:EnvP→Rs σ×EnvP} {A:σ→Y} {B:Int→Int→Y} (h:Loc (Lf e w) S e) (h1:∀ f,Bs e f→∀ s e',S f=(.go s,e')→T f=(A s,e')) (h2:∀ f,Bs e f→∀ c x e',S f=(.fin c x,e')→T f=(B c x,e')):Loc (Lf e w) T e :=
 .gfE (E:=fun _ _ =>[]) h (fun _ _ =>aj3) h1 h2
theorem ayA (b:Bs e f):abJ f=abJ e:=by unfold abJ; rw [b.c]
theorem ar8 {s i:Int} {bm:B16}:Loc (Lf e w) (fun e =>ag8 w e s i bm) e:=by
 by_cases h1:abJ e≤alv w (abJ e) s i
 ·exact .a0 (if_pos h1) fun f b =>by unfold ag8; rw [ayA b]; exact if_pos h1
 by_cases h2:abJ e≤alv w (abJ e) s (wi (alv w (abJ e) s i+1))
 ·exact .ld ((if_neg h1).trans (if_pos h2)) fun f b g =>by unfold ag8; simp only [ayA b,b.l,EnvP.gt,g]; exact (if_neg h1).trans (if_pos h2)
 ·exact .ld ((if_neg h1).trans (if_neg h2)) fun f b g =>by unfold ag8; simp only [ayA b,b.l,EnvP.gt,g]; exact (if_neg h1).trans (if_neg h2)
theorem aAY (s:ProbeS):Loc (Lf e w) (fun e =>ajR w e s) e:=by
 cases s with
 | new =>exact .m0 (ar8 (s:=avL e.k (abJ e)) (i:=0) (bm:=aKY)) id fun f b =>by simp only [ajR,ayA b,b.k]; rfl
 | run s i bm =>exact ar8
theorem aDB {x y:Int}:Loc (Lf e w) (fun e =>((.fin 0 0:Rs σ),aDC x y e)) e:=.pt rfl fun f b g =>by unfold aDC; simp only [EnvP.gt,g]
theorem akD {x:Int} (s:LPushS):Loc (Lf e w) (fun e =>abO w v x e s) e:=by
 cases s with
 | new =>exact .gf (A:=fun s =>.go (.push s)) (B:=fun c _ =>if c=3 then .fin 3 0 else .go .set) (avi (q:=aav e.l w v) (v:=x) .l1) (fun f b s e' h =>by simp only [abO,b.l,h]) fun f b c x e' h =>by simp only [abO,b.l,h]
 | push s =>exact .gf (A:=fun s =>.go (.push s)) (B:=fun c _ =>if c=3 then .fin 3 0 else .go .set) (avi (q:=aav e.l w v) (v:=x) s) (fun f b s e' h =>by simp only [abO,b.l,h]) fun f b c x e' h =>by simp only [abO,b.l,h]
 | set =>exact .m0 (aDB (σ:=LPushS) (x:=aaI e.l w) (y:=v)) id fun f b =>by simp only [abO,b.l]; rfl
theorem aEx (s:LPopS):Loc (Lf e w) (fun e =>agD w e s) e:=by
 cases s with
 | l1 x =>exact .ld rfl fun f b g =>by simp only [agD,EnvP.gt,b.l,g]
 | l2 v s =>exact .gf (A:=fun s =>.go (.l2 v s)) (B:=fun c x =>if c=1 then .fin 1 x else .go (.l3 v .l1)) (aD8 (q:=aav e.l w v) s) (fun f b s e' h =>by simp only [agD,b.l,h]) fun f b c x e' h =>by simp only [agD,b.l,h]
 | l3 v s =>exact .gf (A:=fun s =>.go (.l3 v s)) (B:=fun _ _ =>.go (.l1 v)) (auW (x:=aaI e.l w) (y:=v) (q:=aav e.l w v) s) (fun f b s e' h =>by simp only [agD,b.l,h]) fun f b c x e' h =>by simp only [agD,b.l,h]
theorem cev {c k w' t o l:Int} (h:w'=w):∀ x∈(if c=3 then [⟨k,w',t,o,l⟩] else []:List Ev),x.worker=w:=by
 split
 ·exact ah8 h
 ·exact aj3
theorem aDa (s:WalkS):Loc (Lf e w) (fun e =>aeL w v e s) e:=by
 cases s with
 | l1 t =>
  by_cases h:aut e t v
  ·have h2:∀ f,Bs e f→¬ ¬ aut f t v:=fun f b k =>k ((ayS b).2 h)
   exact .gf (A:=fun s =>.go (.raise t s)) (B:=fun c _ =>.go (if c=1 then .l2 t else .l4 t)) (au5 (t:=t) (v:=v) (.l1 0)) (fun f b s e' h =>by simp only [aeL]; rw [if_neg (h2 f b),h]) fun f b c x e' h =>by simp only [aeL]; rw [if_neg (h2 f b),h]
  ·exact .a0 (if_pos h) fun f b =>if_pos (fun k =>h ((ayS b).1 k))
 | raise t s =>exact .gf (A:=fun s =>.go (.raise t s)) (B:=fun c _ =>.go (if c=1 then .l2 t else .l4 t)) (au5 (t:=t) (v:=v) s) (fun f b s e' h =>by simp only [aeL,h]) fun f b c x e' h =>by simp only [aeL,h]
 | l2 t =>exact .ld rfl fun f b g =>by simp only [aeL,EnvP.gt,b.l,g]
 | push t s =>
  refine .gfE (A:=fun s =>.go (.push t s)) (B:=fun _ _ =>.go (.l4 t)) (E:=fun c _ =>if c=3 then [⟨19,w,t,0,v⟩] else []) (akD (v:=v) (x:=t) s) (fun c _ =>cev rfl) (fun f b s e' h =>by simp only [aeL,h]) fun f b c x e' h =>?_
  simp only [aeL,h]
  split<;>rfl
 | l4 t =>exact .ld rfl fun f b g =>by simp only [aeL,EnvP.gt,b.l,g]
theorem aB1 {t:Int} (s:EnterS):Loc (Lf e w) (fun e =>adX w t e s) e:=by
 cases s with
 | l1 =>
  by_cases h:IsT e t
  ·exact .pt (if_neg (fun k =>k h)) fun f b g =>(if_neg (fun k =>k ((ank b).2 h))).trans (by simp only [b.l,b.k])
  ·exact .a0 (if_pos h) fun f b =>if_pos (fun k =>h ((ank b).1 k))
 | l2 =>exact .pt rfl fun f b g =>by simp only [adX,b.l]
 | l3 =>exact .ld rfl fun f b g =>by simp only [adX,EnvP.gt,b.l,g]
 | l4 v s =>exact .gf (A:=fun s =>.go (.l4 v s)) (B:=fun c _ =>.fin c v) (akD (v:=v) (x:=t) s) (fun f b s e' h =>by simp only [adX,h]) fun f b c x e' h =>by simp only [adX,h]
theorem aAi {t:Int} (s:SweepS):Loc (Lf e w) (fun e =>abh w t e s) e:=by
 cases s with
 | l1 =>
  by_cases h:¬ IsT e t∨e.c.age=0
  ·exact .a0 (if_pos h) fun f b =>if_pos (by rw [b.c]; exact h.imp (fun k q =>k ((ank b).1 q)) id)
  ·exact .ld (if_neg h) fun f b g =>(if_neg (fun k =>h (by rw [b.c] at k; exact k.imp (fun k q =>k ((ank b).2 q)) id))).trans (by simp only [EnvP.gt,b.l,g])
 | l2 =>exact .ld rfl fun f b g =>by simp only [abh,EnvP.gt,b.l,b.c,b.k,g]
 | l3 =>exact .ld rfl fun f b g =>by simp only [abh,EnvP.gt,b.l,b.c,g]
 | l4 q =>
  by_cases hh:e.hit (ab2 e.l t) q=true
  ·exact .cs1 (if_pos hh) rfl fun f b g =>by simp only [abh,EnvP.hit,b.l,b.hit g]; exact if_pos hh
  ·exact .cs (if_neg hh) fun f b g =>by simp only [abh,EnvP.hit,b.l,b.hit g]; exact if_neg hh
 | l5 q =>exact .pt rfl fun f b g =>by simp only [abh,b.l,b.k]
 | l6 q s =>
  refine .gfE (A:=fun s =>.go (.l6 q s)) (B:=fun _ _ =>.fin 1 0) (E:=fun c _ =>if c=3 then [⟨19,w,t,0,wi (wi q+1)⟩] else []) (akD (v:=wi (wi q+1)) (x:=t) s) (fun c _ =>cev rfl) (fun f b s e' h =>by simp only [abh,h]) fun f b c x e' h =>?_
  simp only [abh,h]
  split<;>rfl
theorem aro (d:DrainS):Loc (Lf e w) (fun e =>aa8 w e d) e:=by
 obtain ⟨x,dir,p,last,cnt,k⟩:=d
 cases k with
 | l1 =>exact .ld rfl fun f b g =>by simp only [aa8,EnvP.gt,g]
 | l2 =>exact .cs rfl fun f b g =>by simp only [aa8,arP,EnvP.hit,b.hit g]
 | l3 s =>exact .gf (A:=fun s =>.go { x:=x,direct:=dir,p:=p,last:=last,count:=cnt,c:=.l3 s }) (B:=fun c y =>if c=2 then .go { x:=x,direct:=dir,p:=p,last:=last,count:=cnt,c:=.l6 } else .go { x:=y,direct:=dir,p:=p,last:=last,count:=cnt,c:=.l4 }) (azw s) (fun f b s e' h =>by simp only [aa8,h]) fun f b c x e' h =>by simp only [aa8,h]
 | l4 =>exact .ld rfl fun f b g =>by simp only [aa8,EnvP.gt,b.l,g]
 | l5 s =>exact .gf (A:=fun s =>.go { x:=x,direct:=dir,p:=p,last:=last,count:=cnt,c:=.l5 s }) (B:=fun c _ =>if c=3 then .go { x:=x,direct:=true,p:=p,last:=last,count:=cnt,c:=.l6 } else if wi (cnt+1)<e.c.batch then .go { x:=x,direct:=dir,p:=p,last:=p,count:=wi (cnt+1),c:=.l3 .l1 } else .go { x:=x,direct:=dir,p:=p,last:=p,count:=wi (cnt+1),c:=.l6 }) (akD (v:=p) (x:=x) s) (fun f b s e' h =>by simp only [aa8,b.c,h]) fun f b c x e' h =>by simp only [aa8,b.c,h]
 | l6 =>exact .pt rfl fun f b g =>by simp only [aa8,atG]
 | l7 s =>exact .gf (A:=fun s =>.go { x:=x,direct:=dir,p:=p,last:=last,count:=cnt,c:=.l7 s }) (B:=fun _ _ =>anq { x:=x,direct:=dir,p:=p,last:=last,count:=cnt,c:=.l7 s }) (amo (v:=last) s) (fun f b s e' h =>by simp only [aa8,h]) fun f b c x e' h =>by simp only [aa8,h]
end
end
section
open Go
variable [Tb]
theorem aiI (b:List Int) (l:List (List Int)) (hl:l.length≤1000000):aan (aq5 b l) fun o =>o.1.1=true→b.length≤400∧∀ x∈l,x.length≤400:=by
 unfold aq5
 refine aan.bind (P:=fun z =>(∀ o,z=.inr o→o.1.1=false)∧(∀ y,z=.inl y→∀ x∈l,x.length≤400)) (abK (fun x =>0≤x.1∧x.1≤(l.length:Int)∧∀ i:Nat,(i:Int)<x.1→∀ y,l[i]?=some y→y.length≤400) (fun x =>((l.length:Int)-x.1).toNat) (fun self x ⟨q0,q1,q2⟩ ih =>?_) _ _ ⟨Int.le_refl 0,by show (0:Int)≤(l.length:Int); omega,fun i hi =>by omega⟩ (by show ((l.length:Int)-0).toNat<_; omega)) fun z hz =>?_
 rotate_left
 ·have e2:wi (x.1+1)=x.1+1:=aaK (aao (by omega))
  rw [e2]
  refine aan.ite (fun hlt =>.guard ⟨q0,hlt⟩ fun _ =>aan.ite (fun _ =>.some_ ⟨fun o e =>(by cases e; rfl),fun y e =>(by cases e)⟩) fun h4 =>ih _ ⟨by show 0≤x.1+1; omega,by show x.1+1≤(l.length:Int); omega,fun i hi y hy =>?_⟩ (by show ((l.length:Int)-(x.1+1)).toNat<((l.length:Int)-x.1).toNat; omega)) fun hlt =>.some_ ⟨fun o e =>(by cases e),fun y e x' hx' =>?_⟩
  ·by_cases hi2:(i:Int)<x.1
   ·exact q2 i hi2 y hy
   ·have hi3:i=x.1.toNat:=by have:(i:Int)<x.1+1:=hi; omega
    have h5:=adL (d:=([]:List Int)) (xs:=l) (i:=x.1) ⟨q0,hlt⟩
    rw [hi3,h5] at hy
    cases hy
    omega
  ·obtain ⟨i,hi,rfl⟩:=List.getElem_of_mem hx'
   exact q2 i (by omega) _ (List.getElem?_eq_getElem hi)
 ·rcases z with y | o
  ·refine .some_ fun e =>⟨?_,hz.2 y rfl⟩
   have:((b.length:Nat):Int)≤400:=of_decide_eq_true e
   omega
  ·exact .some_ fun e =>by rw [hz.1 o rfl] at e; cases e
structure DecOk (c:Cfg):Prop where
 w:1≤c.workers∧c.workers≤4
 l:1≤c.levels∧c.levels≤4
 k:1≤c.classes∧c.classes≤3∧c.classes≤c.levels
 t:1≤c.tasks∧c.tasks≤12
 q:1≤c.deque∧c.deque≤4
 h:1≤c.heap∧c.heap≤4
 b:1≤c.batch∧c.batch≤c.deque
 a:0≤c.age∧c.age≤5
 p:1≤c.patience∧c.patience≤8
 pn:1≤c.progs.length∧c.progs.length≤4
 pl:∀ x∈c.progs,x.length≤5
 ps:∀ x∈c.progs,∀ i∈x,(i.op=0∧1≤i.a∧i.a≤4∧i.b=0)∨(i.op=1∧0≤i.a∧i.a<(c.progs.length:Int)∧0≤i.b∧i.b<c.levels)∨(i.op=2∧0≤i.a∧i.a≤3∧i.b=0)
 sn:c.subs.length≤5
 ss:∀ s∈c.subs,(0≤s.prog∧s.prog<(c.progs.length:Int))∧(0≤s.level∧s.level<c.levels)∧0≤s.deadline∧s.deadline≤15
structure CodOk (N:Int) (r:CodV):Prop where
 by_:∀ x∈r.inn,0≤x∧x≤255
 ln:r.inn.length≤1000000
 at_:0≤r.at_∧r.at_≤N
theorem acF {N:Int} {r:CodV} {k:Int} (h:CodOk N r) (hN:N≤1000000) (h1:1≤k) (h2:k≤1000):aan (ab1 r k) fun o =>(0≤o.1.1∧o.1.1<k)∧CodOk (N+1) o.2.1:=by
 have ha:=h.at_
 have e1:wi (r.at_+1)=r.at_+1:=aaK (aao (by omega))
 unfold ab1
 rw [e1]
 refine aan.ite (fun hlt =>.guard ⟨ha.1,hlt⟩ fun _ =>.guard (by omega) fun _ =>.some_ ⟨?_,h.by_,h.ln,by show 0≤r.at_+1; omega,by show r.at_+1≤N+1; omega⟩) fun _ =>.some_ ⟨⟨Int.le_refl 0,by show (0:Int)<k; omega⟩,h.by_,h.ln,by show 0≤r.at_+1; omega,by show r.at_+1≤N+1; omega⟩
 have hb:=h.by_ _ (auf (d:=dfR 17) (xs:=r.inn) (i:=r.at_) ⟨ha.1,hlt⟩)
 have e2:wi (aj8 r.inn r.at_)=aj8 r.inn r.at_:=aaK (aao (x:=aj8 r.inn r.at_) ⟨by have:=hb.1; exact Int.le_trans (by decide) this,by have:=hb.2; exact Int.le_trans this (by decide)⟩)
 rw [e2]
 exact aAc h1 hb.1
theorem CodOk.up {N M:Int} {r:CodV} (h:CodOk N r) (hl:N≤M):CodOk M r:=⟨h.by_,h.ln,h.at_.1,by have:=h.at_; omega⟩
def axF (n lv:Int) (i:Ins):Prop:=(i.op=0∧1≤i.a∧i.a≤4∧i.b=0)∨(i.op=1∧0≤i.a∧i.a<n∧0≤i.b∧i.b<lv)∨(i.op=2∧0≤i.a∧i.a≤3∧i.b=0)
def aMr (n lv:Int) (s:Sub):Prop:=(0≤s.prog∧s.prog<n)∧(0≤s.level∧s.level<lv)∧0≤s.deadline∧s.deadline≤15
structure NumOk (c:Cfg):Prop where
 w:1≤c.workers∧c.workers≤4
 l:1≤c.levels∧c.levels≤4
 k:1≤c.classes∧c.classes≤3∧c.classes≤c.levels
 t:1≤c.tasks∧c.tasks≤12
 q:1≤c.deque∧c.deque≤4
 h:1≤c.heap∧c.heap≤4
 b:1≤c.batch∧c.batch≤c.deque
 a:0≤c.age∧c.age≤5
 p:1≤c.patience∧c.patience≤8
theorem w1p {x:Int} (h:0≤x) (h2:x≤1000000):wi (1+x)=1+x:=aaK (aao (by omega))
theorem axh {b:List Int} (hb:∀ x∈b,0≤x∧x≤255) (hl:b.length≤1000000):aan (apR b) fun o =>DecOk o.1.1:=by
 unfold apR
 refine (acF (N:=0) (k:=4) ⟨hb,hl,Int.le_refl 0,Int.le_refl 0⟩ (by decide) (by decide) (by decide)).bind fun r1 h1 =>?_
 refine (acF (k:=4) h1.2 (by decide) (by decide) (by decide)).bind fun r2 h2 =>?_
 have w1:=w1p h1.1.1 (by omega)
 have w2:=w1p h2.1.1 (by omega)
 rw [w1,w2]
 refine (acF h2.2 (by decide) (by split<;>omega) (by split<;>omega)).bind fun r3 h3 =>?_
 refine (acF (k:=12) h3.2 (by decide) (by decide) (by decide)).bind fun r4 h4 =>?_
 refine (acF (k:=4) h4.2 (by decide) (by decide) (by decide)).bind fun r5 h5 =>?_
 refine (acF (k:=4) h5.2 (by decide) (by decide) (by decide)).bind fun r6 h6 =>?_
 have h3':r3.1.1<3∧r3.1.1<1+r2.1.1:=by
  have:=h3.1.2
  split at this<;>omega
 have w3:=w1p h3.1.1 (by omega)
 have w4:=w1p h4.1.1 (by omega)
 have w5:=w1p h5.1.1 (by omega)
 have w6:=w1p h6.1.1 (by omega)
 rw [w3,w4,w5,w6]
 refine (acF h6.2 (by decide) (by omega) (by omega)).bind fun r7 h7 =>?_
 refine (acF (k:=6) h7.2 (by decide) (by decide) (by decide)).bind fun r8 h8 =>?_
 refine (acF (k:=8) h8.2 (by decide) (by decide) (by decide)).bind fun r9 h9 =>?_
 refine (acF (k:=4) h9.2 (by decide) (by decide) (by decide)).bind fun r10 h10 =>?_
 have w7:=w1p h7.1.1 (by omega)
 have w9:=w1p h9.1.1 (by omega)
 have w10:=w1p h10.1.1 (by omega)
 rw [w7,w9,w10]
 refine aan.bind (P:=fun z =>CodOk 1000 z.2.1∧NumOk z.2.2.1∧z.2.2.1.levels=1+r2.1.1∧(z.2.2.1.progs.length:Int)=1+r10.1.1∧(∀ p∈z.2.2.1.progs,p.length≤5∧∀ i∈p,axF (1+r10.1.1) (1+r2.1.1) i)∧z.2.2.1.subs=[])
  (abK (fun x =>0≤x.1∧x.1≤1+r10.1.1∧CodOk (10+30*x.1) x.2.1∧NumOk x.2.2.1∧x.2.2.1.levels=1+r2.1.1∧(x.2.2.1.progs.length:Int)=x.1∧(∀ p∈x.2.2.1.progs,p.length≤5∧∀ i∈p,axF (1+r10.1.1) (1+r2.1.1) i)∧x.2.2.1.subs=[])
   (fun x =>(1+r10.1.1-x.1).toNat) (fun self x ⟨q0,q1,q2,q3,q4,q5,q6,q7⟩ ih =>?step) _ _ ⟨Int.le_refl 0,by show (0:Int)≤1+r10.1.1; omega,h10.2,?num,rfl,rfl,fun p hp =>(by cases hp),rfl⟩ (by show (1+r10.1.1-0).toNat<_; omega)) fun z hz =>?cont
 case step =>
  have f1:wi (x.1+1)=x.1+1:=aaK (aao (by omega))
  refine aan.ite (fun hlt =>?_) fun hlt =>.some_ ⟨q2.up (by omega),q3,q4,by show (x.2.2.1.progs.length:Int)=_; omega,q6,q7⟩
  have hlen:(x.2.2.1.progs.length:Int)<10:=by omega
  rw [f1]
  refine (acF (k:=6) q2 (by omega) (by decide) (by decide)).bind fun r14 h14 =>?_
  refine aan.bind (P:=fun z =>z.1.length≤5∧(∀ i∈z.1,axF (1+r10.1.1) (1+r2.1.1) i)∧CodOk (10+30*x.1+26) z.2.2.1)
   (abK (fun y =>0≤y.2.1∧(y.1.length:Int)+y.2.1=r14.1.1∧CodOk (10+30*x.1+1+5*(r14.1.1-y.2.1)) y.2.2.1∧∀ i∈y.1,axF (1+r10.1.1) (1+r2.1.1) i)
    (fun y =>y.2.1.toNat) (fun self y ⟨p0,p1,p2,p3⟩ ih =>?_) _ _ ⟨h14.1.1,by show ((0:Nat):Int)+r14.1.1=_; omega,h14.2.up (by show 10+30*x.1+1≤10+30*x.1+1+5*(r14.1.1-r14.1.1); omega),fun i hi =>(by cases hi)⟩ (by show r14.1.1.toNat<_; omega)) fun z hz =>?_
  ·refine .guard (by show (((x.2.2.1.progs.length+1:Nat)):Int)<_; omega) fun _ =>ih _ ⟨by show 0≤x.1+1; omega,by show x.1+1≤_; omega,hz.2.2.up (by show 10+30*x.1+26≤10+30*(x.1+1); omega),⟨q3.w,q3.l,q3.k,q3.t,q3.q,q3.h,q3.b,q3.a,q3.p⟩,q4,?_,?_,q7⟩ ?_
   ·show (((x.2.2.1.progs++[z.1]).length:Nat):Int)=x.1+1
    rw [List.length_append,List.length_singleton]; omega
   ·intro p hp
    rcases List.mem_append.1 hp with hp | hp
    ·exact q6 p hp
    ·rw [List.mem_singleton] at hp; subst hp; exact ⟨hz.1,hz.2.1⟩
   ·show (1+r10.1.1-(x.1+1)).toNat<(1+r10.1.1-x.1).toNat
    omega
  ·have f2:wi (y.2.1-1)=y.2.1-1:=aaK (aao (by omega))
   have hyl:y.1.length≤5:=by omega
   refine aan.ite (fun hlt2 =>?_) fun hlt2 =>.some_ ⟨hyl,p3,p2.up (by omega)⟩
   rw [f2,q4]
   have nx:∀ (u:Ins) (r:CodV),axF (1+r10.1.1) (1+r2.1.1) u→CodOk (10+30*x.1+1+5*(r14.1.1-(y.2.1-1))) r→aan (if (((y.1.length+([u]:List Ins).length:Nat)):Int)<1000000000000 then self (y.1++[u],y.2.1-1,r,()) else none) fun z =>z.1.length≤5∧(∀ i∈z.1,axF (1+r10.1.1) (1+r2.1.1) i)∧CodOk (10+30*x.1+26) z.2.2.1:=fun u r hu hr =>
    .guard (by show (((y.1.length+1:Nat)):Int)<_; omega) fun _ =>ih _ ⟨by show 0≤y.2.1-1; omega,by
     show (((y.1++[u]).length:Nat):Int)+(y.2.1-1)=_
     rw [List.length_append,List.length_singleton]; omega,hr,fun i hi =>by
     rcases List.mem_append.1 hi with hi | hi
     ·exact p3 i hi
     ·rw [List.mem_singleton] at hi; subst hi; exact hu⟩ (by show (y.2.1-1).toNat<y.2.1.toNat; omega)
   refine (acF (k:=3) p2 (by omega) (by decide) (by decide)).bind fun r18 h18 =>?_
   refine aan.ite (fun e0 =>?_) fun e0 =>aan.ite (fun e1 =>?_) fun e1 =>?_
   ·refine (acF (k:=4) h18.2 (by omega) (by decide) (by decide)).bind fun r19 h19 =>?_
    rw [w1p h19.1.1 (by omega)]
    exact nx _ _ (.inl ⟨e0,by show 1≤1+r19.1.1; omega,by show 1+r19.1.1≤4; omega,rfl⟩) (h19.2.up (by omega))
   ·refine (acF (k:=1+r10.1.1) h18.2 (by omega) (by omega) (by omega)).bind fun r20 h20 =>?_
    refine (acF (k:=1+r2.1.1) h20.2 (by omega) (by omega) (by omega)).bind fun r21 h21 =>?_
    exact nx _ _ (.inr (.inl ⟨e1,h20.1.1,h20.1.2,h21.1.1,h21.1.2⟩)) (h21.2.up (by omega))
   ·refine (acF (k:=4) h18.2 (by omega) (by decide) (by decide)).bind fun r22 h22 =>?_
    exact nx _ _ (.inr (.inr ⟨by show r18.1.1=2; omega,h22.1.1,by show r22.1.1≤3; omega,rfl⟩)) (h22.2.up (by omega))
 case num =>
  refine ⟨?_,?_,?_,?_,?_,?_,?_,?_,?_⟩
  ·exact ⟨by show 1≤1+r1.1.1; omega,by show 1+r1.1.1≤4; omega⟩
  ·exact ⟨by show 1≤1+r2.1.1; omega,by show 1+r2.1.1≤4; omega⟩
  ·exact ⟨by show 1≤1+r3.1.1; omega,by show 1+r3.1.1≤3; omega,by show 1+r3.1.1≤1+r2.1.1; omega⟩
  ·exact ⟨by show 1≤1+r4.1.1; omega,by show 1+r4.1.1≤12; omega⟩
  ·exact ⟨by show 1≤1+r5.1.1; omega,by show 1+r5.1.1≤4; omega⟩
  ·exact ⟨by show 1≤1+r6.1.1; omega,by show 1+r6.1.1≤4; omega⟩
  ·exact ⟨by show 1≤1+r7.1.1; omega,by show 1+r7.1.1≤1+r5.1.1; omega⟩
  ·exact ⟨h8.1.1,by show r8.1.1≤5; omega⟩
  ·exact ⟨by show 1≤1+r9.1.1; omega,by show 1+r9.1.1≤8; omega⟩
 case cont =>
  obtain ⟨g1,g2,g3,g4,g5,g6⟩:=hz
  refine (acF (k:=6) g1 (by decide) (by decide) (by decide)).bind fun r23 h23 =>?_
  refine aan.bind (P:=fun y =>DecOk y.2.2.1)
   (abK (fun y =>0≤y.1∧(y.2.2.1.subs.length:Int)+y.1=r23.1.1∧CodOk (1001+5*(r23.1.1-y.1)) y.2.1∧NumOk y.2.2.1∧y.2.2.1.levels=1+r2.1.1∧(y.2.2.1.progs.length:Int)=1+r10.1.1∧(∀ p∈y.2.2.1.progs,p.length≤5∧∀ i∈p,axF (1+r10.1.1) (1+r2.1.1) i)∧∀ s∈y.2.2.1.subs,aMr (1+r10.1.1) (1+r2.1.1) s)
    (fun y =>y.1.toNat) (fun self y ⟨p0,p1,p2,p3,p4,p5,p6,p7⟩ ih =>?_) _ _ ⟨h23.1.1,by show ((z.2.2.1.subs.length:Nat):Int)+r23.1.1=r23.1.1; rw [g6]; show ((0:Nat):Int)+r23.1.1=r23.1.1; omega,h23.2.up (by show (1001:Int)≤1001+5*(r23.1.1-r23.1.1); omega),g2,g3,g4,g5,fun s hs =>by
     have hs2:s∈z.2.2.1.subs:=hs
     rw [g6] at hs2; cases hs2⟩ (by show r23.1.1.toNat<_; omega)) fun y hy =>.some_ hy
  have f2:wi (y.1-1)=y.1-1:=aaK (aao (by omega))
  have hyl:y.2.2.1.subs.length≤5:=by omega
  refine aan.ite (fun hlt =>?_) fun hlt =>.some_ ⟨p3.w,p3.l,p3.k,p3.t,p3.q,p3.h,p3.b,p3.a,p3.p,by show 1≤y.2.2.1.progs.length∧y.2.2.1.progs.length≤4; omega,fun x hx =>(p6 x hx).1,fun x hx i hi =>by
   have:=(p6 x hx).2 i hi
   rw [p5,p4]; exact this,hyl,fun s hs =>by
   have:=p7 s hs
   rw [p5,p4]; exact this⟩
  rw [f2,p4]
  refine (acF (k:=1+r10.1.1) p2 (by omega) (by omega) (by omega)).bind fun r27 h27 =>?_
  refine (acF (k:=1+r2.1.1) h27.2 (by omega) (by omega) (by omega)).bind fun r28 h28 =>?_
  refine (acF (k:=16) h28.2 (by omega) (by omega) (by omega)).bind fun r29 h29 =>?_
  refine .guard (by show (((y.2.2.1.subs.length+1:Nat)):Int)<_; omega) fun _ =>ih _ ⟨by show 0≤y.1-1; omega,?_,h29.2.up (by show 1001+5*(r23.1.1-y.1)+1+1+1≤1001+5*(r23.1.1-(y.1-1)); omega),⟨p3.w,p3.l,p3.k,p3.t,p3.q,p3.h,p3.b,p3.a,p3.p⟩,p4,p5,p6,?_⟩ (by show (y.1-1).toNat<y.1.toNat; omega)
  ·show (((y.2.2.1.subs++[_]).length:Nat):Int)+(y.1-1)=_
   rw [List.length_append,List.length_singleton]; omega
  ·intro s hs
   rcases List.mem_append.1 hs with hs | hs
   ·exact p7 s hs
   ·rw [List.mem_singleton] at hs; subst hs
    exact ⟨h27.1,h28.1,h29.1.1,by show r29.1.1≤15; omega⟩
end
end Go.Proofs.YtidhehdanppcoaaGreat
