/- The program's machines do what was said plainly,5: running a task: parts. The program's machines do what was said plainly,6: running a task: lines. The program's machines do what was said plainly,7: running a task. The program's machines do what was said plainly,8: workers. The program's machines do what was said plainly,9: the client; what workers and the client leave. What is decoded is valid. The program's environment made anew,at a valid configuration. What is decoded is valid,also with other numbers of tasks and places. An engine: what holds between the entries of a script. -/
import Derived.Test.YtdnimkpfgjcjeaaGreatEzan
import Derived.Test.YtdnimkpfgjcjeaaGreatEzal
import Derived.Test.YtdnimkpfgjcjeaaGreatEzai
set_option linter.all false
namespace Go.Proofs.YtdnimkpfgjcjeaaGreat
section
open Go Go.RowKit
set_option maxRecDepth 100000
structure SOk (l:List Int):Prop where
 ne:l≠[]
 le:l.length≤999999999
section
variable {l:List Int}
theorem SOk.n (h:SOk l):wi (((l.length:Nat):Int)-1)=((l.length-1:Nat):Int):=by
 have h1:=List.length_pos_iff.2 h.ne
 have h2:=h.le
 rw [aaw (aai (by omega))]; omega
theorem SOk.a (h:SOk l):ahz l ((l.length-1:Nat):Int)=aaO l:=by
 have h1:=List.length_pos_iff.2 h.ne
 have h2:l[l.length-1]?=some (l[l.length-1]'(by omega)):=List.getElem?_eq_getElem _
 simp only [ahz,atL,aaO,Int.toNat_natCast,List.getLast?_eq_getElem?,h2]
 rfl
theorem SOk.g (h:SOk l):(0≤((l.length-1:Nat):Int)∧((l.length-1:Nat):Int)<((l.length:Nat):Int))=True:=by
 have h1:=List.length_pos_iff.2 h.ne
 exact eq_true ⟨by omega,by omega⟩
theorem SOk.g2 (h:SOk l):(0≤((l.length-1:Nat):Int)∧((l.length-1:Nat):Int)≤((l.length:Nat):Int))=True:=by
 have h1:=List.length_pos_iff.2 h.ne
 exact eq_true ⟨by omega,by omega⟩
theorem SOk.t (h:SOk l):l.take (((l.length-1:Nat):Int)).toNat=l.dropLast:=by
 rw [List.dropLast_eq_take]; simp
theorem SOk.s (h:SOk l) (y:Int):l.set (((l.length-1:Nat):Int)).toNat y=l.dropLast++[y]:=by
 obtain ⟨a,b,rfl⟩:∃ a b,l=a++[b]:=⟨l.dropLast,l.getLast h.ne,(List.dropLast_concat_getLast h.ne).symm⟩
 simp
end
section
variable [Tb] {e:EnvP} {o:OutV} {w ln id ch lv wt:Int} {st:List Int} {m:MV}
theorem aoW {rs:List RecP} {t:Int} {r:RecP} (h:0≤t∧t<(rs.length:Int)):aab (rs.set t.toNat r) t=r:=aAq h
theorem atI {rs:List RecP} {t:Int} (h:0≤t∧t<(rs.length:Int)):rs.set t.toNat (aab rs t)=rs:=by
 have h1:=aeL (d:=(dfR 26:RecP)) (xs:=rs) h
 have h2:t.toNat<rs.length:=by omega
 refine List.ext_getElem? fun i =>?_
 by_cases hi:t.toNat=i
 ·subst hi
  rw [List.getElem?_set_self h2]
  exact h1.symm
 ·rw [List.getElem?_set_ne hi]
def afr (x:RecP) (p:List Ins):Int :=
 if x.waiting ≠ -1 then 1
 else if x.pc<0∨(p.length:Int)≤x.pc then 16
 else if (acu p x.pc).op=0 then 2
 else if (acu p x.pc).op=1 then 4
 else if (acu p x.pc).a<0∨(x.kids.length:Int)≤(acu p x.pc).a∨ahz x.kids (acu p x.pc).a=-1 then 3
 else 9
theorem apy {x:RecP} (h1:¬ x.prog<0) (h2:¬ (e.c.progs.length:Int)≤x.prog):e.prog x=atL [] e.c.progs x.prog:=by
 unfold EnvP.prog
 rw [if_neg (by omega)]
theorem afy {x:RecP} (h:x.prog<0∨(e.c.progs.length:Int)≤x.prog):e.prog x=[]:=by
 unfold EnvP.prog
 rw [if_pos h]
theorem aAe {x:RunV MV} (hS:SOk x.stack) (hT:0≤aaO x.stack∧aaO x.stack<(e.recs.length:Int)):aeX x e=some ((afr (e.rc (aaO x.stack)) (e.prog (e.rc (aaO x.stack))),()),(x,e,())):=by
 unfold aeX
 try simp only [tpI,tlI]
 simp only [hS.n,hS.a,hS.g,hT,and_self,if_true,atI hT]
 show _=some ((afr (aab e.recs (aaO x.stack)) (e.prog (aab e.recs (aaO x.stack))),()),(x,e,()))
 generalize aab e.recs (aaO x.stack)=r
 by_cases h1:r.prog<0
 ·rw [afy (.inl h1)]
  simp only [h1,if_true,afr,List.length_nil]
  split
  ·rfl
  ·rw [if_pos (show r.pc<0∨((0:Nat):Int)≤r.pc by omega)]
   split
   ·rfl
   ·rw [if_pos (by omega)]
 by_cases h2:(e.c.progs.length:Int)≤r.prog
 ·rw [afy (.inr h2)]
  simp only [h1,h2,if_true,if_false,afr,List.length_nil]
  split
  ·rfl
  ·rw [if_pos (show r.pc<0∨((0:Nat):Int)≤r.pc by omega)]
   split
   ·rfl
   ·rw [if_pos (by omega)]
 rw [apy h1 h2]
 generalize atL [] e.c.progs r.prog=p
 unfold afr
 rw [if_neg h1,if_neg h2]
 rw [if_pos (show 0≤r.prog∧r.prog<(e.c.progs.length:Int) by omega)]
 by_cases hw:r.waiting ≠ -1
 ·rw [if_pos hw,if_pos hw]
 rw [if_neg hw,if_neg hw]
 by_cases h3:r.pc<0
 ·rw [if_pos h3,if_pos (.inl h3)]
 by_cases h4:(p.length:Int)≤r.pc
 ·rw [if_neg h3,if_pos h4,if_pos (.inr h4)]
 rw [if_neg h3,if_neg h4,if_neg (show ¬ (r.pc<0∨(p.length:Int)≤r.pc) by omega)]
 have hp:0≤r.pc∧r.pc<(p.length:Int):=by omega
 rw [if_pos hp]
 by_cases c1:(acu p r.pc).op=0
 ·rw [if_pos c1,if_pos c1]
 rw [if_neg c1,if_neg c1,if_pos hp]
 by_cases c2:(acu p r.pc).op=1
 ·rw [if_pos c2,if_pos c2]
 rw [if_neg c2,if_neg c2,if_pos hp]
 by_cases h5:(acu p r.pc).a<0
 ·rw [if_pos h5,if_pos (.inl h5)]
 by_cases h6:(r.kids.length:Int)≤(acu p r.pc).a
 ·rw [if_neg h5,if_pos h6,if_pos (.inr (.inl h6))]
 rw [if_neg h5,if_neg h6,if_pos (show 0≤(acu p r.pc).a∧(acu p r.pc).a<(r.kids.length:Int) by omega)]
 by_cases h7:ahz r.kids (acu p r.pc).a=-1
 ·rw [if_pos h7,if_pos (.inr (.inr h7))]
 ·rw [if_neg h7,if_neg (by omega)]
theorem amT {x:RunV MV} {v:Ev} (h:e.evs.length≤999999999):aaG x e v=some ((),(x,{ e with evs:=e.evs++[{ v with worker:=x.worker }] },())):=by
 unfold aaG
 try simp only [tpI,tlI]
 rw [acj h,bnd]
theorem aDX (hS:SOk st) (hT:0≤aaO st∧aaO st<(e.recs.length:Int)):aaF ⟨o,w,st,1,m,id,ch,lv,wt⟩ e=some ((false,()),(⟨o,w,st,0,.nil,id,ch,lv,wt⟩,(e.pt 2 (afJ e.l (aaO st)) 0).pr (aaO st) { e.rc (aaO st) with waiting := -1 },())):=by
 unfold aaF
 try simp only [tpI,tlI]
 simp only [tpI,tlI,hS.n,hS.a,hS.g,hT,and_self,if_true,alV,abt,aac,bnd]
 rfl
theorem aDW (hS:SOk st) (hT:0≤aaO st∧aaO st<(e.recs.length:Int)) (hp:¬ ((e.rc (aaO st)).pc<0∨((e.prog (e.rc (aaO st))).length:Int)≤(e.rc (aaO st)).pc)):aaF ⟨o,w,st,2,m,id,ch,lv,wt⟩ e=some ((false,()),(⟨o,w,st,0,.nil,id,ch,lv,wt⟩,e.pr (aaO st) (axJ (e.rc (aaO st)) (acu (e.prog (e.rc (aaO st))) (e.rc (aaO st)).pc)),())):=by
 unfold aaF
 try simp only [tpI,tlI]
 simp only [tpI,tlI,hS.n,hS.a,hS.g,hT,and_self,if_true,Int.reduceEq,if_false,aoW hT,List.set_set,aac,bnd,List.length_set]
 show _=some ((false,()),(_,{ e with recs:=e.recs.set (aaO st).toNat (axJ (aab e.recs (aaO st)) (acu (e.prog (aab e.recs (aaO st))) (aab e.recs (aaO st)).pc)) },()))
 have hp':¬ ((aab e.recs (aaO st)).pc<0∨((e.prog (aab e.recs (aaO st))).length:Int)≤(aab e.recs (aaO st)).pc):=hp
 generalize aab e.recs (aaO st)=r at hp' ⊢
 by_cases h1:r.prog<0
 ·rw [afy (.inl h1)] at hp'; simp only [List.length_nil] at hp'; omega
 by_cases h2:(e.c.progs.length:Int)≤r.prog
 ·rw [afy (.inr h2)] at hp'; simp only [List.length_nil] at hp'; omega
 rw [apy h1 h2] at hp' ⊢
 have h3:(0≤r.prog∧r.prog<(e.c.progs.length:Int))=True:=eq_true (by omega)
 have h4:(0≤r.pc∧r.pc<((atL [] e.c.progs r.prog).length:Int))=True:=eq_true (by omega)
 simp only [h1,h2,h3,h4,if_true,if_false,axJ]
 by_cases h5:r.left=0
 ·simp only [h5,if_true]
  split<;>rfl
 ·simp only [h5,if_false]
  split<;>rfl
theorem aDV (hS:SOk st) (hT:0≤aaO st∧aaO st<(e.recs.length:Int)):aaF ⟨o,w,st,3,m,id,ch,lv,wt⟩ e=some ((false,()),(⟨o,w,st,0,.nil,id,ch,lv,wt⟩,e.pr (aaO st) { e.rc (aaO st) with pc:=wi ((e.rc (aaO st)).pc+1) },())):=by
 unfold aaF
 try simp only [tpI,tlI]
 simp only [tpI,tlI,hS.n,hS.a,hS.g,hT,and_self,if_true,Int.reduceEq,if_false,aac,bnd]
 rfl
end
end
section
open Go Go.RowKit
set_option maxRecDepth 100000
set_option maxRecDepth 100000
section
variable [Tb] {e:EnvP} {o:OutV} {w ln id ch lv wt:Int} {st:List Int} {m:MV}
theorem axQ (hS:SOk st) (hT:0≤aaO st∧aaO st<(e.recs.length:Int)) (hp:¬ ((e.rc (aaO st)).pc<0∨((e.prog (e.rc (aaO st))).length:Int)≤(e.rc (aaO st)).pc)) (hl:e.evs.length≤999999999) (hk:(e.rc (aaO st)).kids.length≤999999999) (v:Int) :
  aci ⟨o,w,st,4,m,id,ch,lv,wt⟩ e 3 v=some ((false,()),(⟨o,w,st,0,.nil,id,ch,lv,wt⟩,(e.pr (aaO st) { e.rc (aaO st) with pc:=wi ((e.rc (aaO st)).pc+1),kids:=(e.rc (aaO st)).kids++[-1] }).em 4 w (aaO st) 0 0,())):=by
 unfold aci
 try unfold tpI
 try unfold tlI
 have he:∀ (x:RunV MV) (rs:List RecP) (v:Ev),aaG x { e with recs:=rs } v=some ((),(x,{ e with recs:=rs,evs:=e.evs++[{ v with worker:=x.worker }] },())):=fun x rs v =>amT (e:={ e with recs:=rs }) hl
 simp only [hS.n,hS.a,hS.g,hT,and_self,if_true,aoW hT,List.set_set,List.length_set]
 have hp':¬ ((aab e.recs (aaO st)).pc<0∨((e.prog (aab e.recs (aaO st))).length:Int)≤(aab e.recs (aaO st)).pc):=hp
 have hk':(aab e.recs (aaO st)).kids.length≤999999999:=hk
 show _=some ((false,()),(_,EnvP.em { e with recs:=e.recs.set (aaO st).toNat { aab e.recs (aaO st) with pc:=wi ((aab e.recs (aaO st)).pc+1),kids:=(aab e.recs (aaO st)).kids++[-1] } } 4 w (aaO st) 0 0,()))
 generalize aab e.recs (aaO st)=r at hp' hk' ⊢
 by_cases h1:r.prog<0
 ·rw [afy (.inl h1)] at hp'; simp only [List.length_nil] at hp'; omega
 by_cases h2:(e.c.progs.length:Int)≤r.prog
 ·rw [afy (.inr h2)] at hp'; simp only [List.length_nil] at hp'; omega
 rw [apy h1 h2] at hp'
 rw [if_neg h1,if_neg h2,if_pos (show 0≤r.prog∧r.prog<(e.c.progs.length:Int) by omega),if_pos (show 0≤r.pc∧r.pc<((atL [] e.c.progs r.prog).length:Int) by omega),if_pos (show (((r.kids.length+([-1]:List Int).length:Nat)):Int)<1000000000000 by rw [List.length_singleton]; omega)]
 rw [he,bnd,aac,bnd]
 rfl
theorem aAz (hS:SOk st) (hT:0≤aaO st∧aaO st<(e.recs.length:Int)) (hp:¬ ((e.rc (aaO st)).pc<0∨((e.prog (e.rc (aaO st))).length:Int)≤(e.rc (aaO st)).pc)) (hk:(e.rc (aaO st)).kids.length≤999999999) (v:Int) (hv:0≤v∧v<(e.recs.length:Int)) :
  aci ⟨o,w,st,4,m,id,ch,lv,wt⟩ e 1 v=some ((false,()),(⟨o,w,st,5,.publish ⟨o0,v,(acu (e.prog (e.rc (aaO st))) (e.rc (aaO st)).pc).b,1⟩,v,ch,(acu (e.prog (e.rc (aaO st))) (e.rc (aaO st)).pc).b,wt⟩,(e.pr (aaO st) { e.rc (aaO st) with pc:=wi ((e.rc (aaO st)).pc+1),kids:=(e.rc (aaO st)).kids++[v] }).pr v (aIO (acu (e.prog (e.rc (aaO st))) (e.rc (aaO st)).pc).a (aaO st)),())):=by
 unfold aci
 try unfold tpI
 try unfold tlI
 simp only [hS.n,hS.a,hS.g,hT,and_self,if_true,aoW hT,List.set_set,List.length_set,Int.reduceEq,if_false,hv]
 have hp':¬ ((aab e.recs (aaO st)).pc<0∨((e.prog (aab e.recs (aaO st))).length:Int)≤(aab e.recs (aaO st)).pc):=hp
 have hk':(aab e.recs (aaO st)).kids.length≤999999999:=hk
 show _=some ((false,()),((⟨o,w,st,5,.publish ⟨o0,v,(acu (e.prog (aab e.recs (aaO st))) (aab e.recs (aaO st)).pc).b,1⟩,v,ch,(acu (e.prog (aab e.recs (aaO st))) (aab e.recs (aaO st)).pc).b,wt⟩:RunV MV),({ e with recs:=(e.recs.set (aaO st).toNat { aab e.recs (aaO st) with pc:=wi ((aab e.recs (aaO st)).pc+1),kids:=(aab e.recs (aaO st)).kids++[v] }).set v.toNat ⟨(acu (e.prog (aab e.recs (aaO st))) (aab e.recs (aaO st)).pc).a,aaO st,0,0,-1,[],false⟩ }:EnvP),()))
 generalize aab e.recs (aaO st)=r at hp' hk' ⊢
 by_cases h1:r.prog<0
 ·rw [afy (.inl h1)] at hp'; simp only [List.length_nil] at hp'; omega
 by_cases h2:(e.c.progs.length:Int)≤r.prog
 ·rw [afy (.inr h2)] at hp'; simp only [List.length_nil] at hp'; omega
 rw [apy h1 h2] at hp' ⊢
 rw [if_neg h1,if_neg h2,if_pos (show 0≤r.prog∧r.prog<(e.c.progs.length:Int) by omega),if_pos (show 0≤r.pc∧r.pc<((atL [] e.c.progs r.prog).length:Int) by omega),if_pos (show (((r.kids.length+([v]:List Int).length:Nat)):Int)<1000000000000 by rw [List.length_singleton]; omega)]
 rw [aji,bnd,aac,bnd]
theorem aIX (hS:SOk st) (hT:0≤aaO st∧aaO st<(e.recs.length:Int)) (hp:¬ ((e.rc (aaO st)).pc<0∨((e.prog (e.rc (aaO st))).length:Int)≤(e.rc (aaO st)).pc)) (ha:¬ ((acu (e.prog (e.rc (aaO st))) (e.rc (aaO st)).pc).a<0∨((e.rc (aaO st)).kids.length:Int)≤(acu (e.prog (e.rc (aaO st))) (e.rc (aaO st)).pc).a)) :
  aaK ⟨o,w,st,9,m,id,ch,lv,wt⟩ e=some ((false,()),(⟨o,w,st,10,.nil,id,ahz (e.rc (aaO st)).kids (acu (e.prog (e.rc (aaO st))) (e.rc (aaO st)).pc).a,lv,wt⟩,(e.pt 2 (afJ e.l (aaO st)) (wu (wi (ahz (e.rc (aaO st)).kids (acu (e.prog (e.rc (aaO st))) (e.rc (aaO st)).pc).a+1)))).pr (aaO st) { e.rc (aaO st) with pc:=wi ((e.rc (aaO st)).pc+1),waiting:=ahz (e.rc (aaO st)).kids (acu (e.prog (e.rc (aaO st))) (e.rc (aaO st)).pc).a },())):=by
 unfold aaK
 try unfold tpI
 try unfold tlI
 simp only [hS.n,hS.a,hS.g,hT,and_self,if_true,atI hT,aoW hT,List.set_set,List.length_set]
 have hp':¬ ((aab e.recs (aaO st)).pc<0∨((e.prog (aab e.recs (aaO st))).length:Int)≤(aab e.recs (aaO st)).pc):=hp
 have ha':¬ ((acu (e.prog (aab e.recs (aaO st))) (aab e.recs (aaO st)).pc).a<0∨((aab e.recs (aaO st)).kids.length:Int)≤(acu (e.prog (aab e.recs (aaO st))) (aab e.recs (aaO st)).pc).a):=ha
 show _=some ((false,()),((⟨o,w,st,10,.nil,id,ahz (aab e.recs (aaO st)).kids (acu (e.prog (aab e.recs (aaO st))) (aab e.recs (aaO st)).pc).a,lv,wt⟩:RunV MV),EnvP.pr (e.pt 2 (afJ e.l (aaO st)) (wu (wi (ahz (aab e.recs (aaO st)).kids (acu (e.prog (aab e.recs (aaO st))) (aab e.recs (aaO st)).pc).a+1)))) (aaO st) { aab e.recs (aaO st) with pc:=wi ((aab e.recs (aaO st)).pc+1),waiting:=ahz (aab e.recs (aaO st)).kids (acu (e.prog (aab e.recs (aaO st))) (aab e.recs (aaO st)).pc).a },()))
 generalize aab e.recs (aaO st)=r at hp' ha' ⊢
 by_cases h1:r.prog<0
 ·rw [afy (.inl h1)] at hp'; simp only [List.length_nil] at hp'; omega
 by_cases h2:(e.c.progs.length:Int)≤r.prog
 ·rw [afy (.inr h2)] at hp'; simp only [List.length_nil] at hp'; omega
 rw [apy h1 h2] at hp' ha' ⊢
 rw [if_neg h1,if_neg h2,if_pos (show 0≤r.prog∧r.prog<(e.c.progs.length:Int) by omega),if_pos (show 0≤r.pc∧r.pc<((atL [] e.c.progs r.prog).length:Int) by omega),if_pos (show 0≤(acu (atL [] e.c.progs r.prog) r.pc).a∧(acu (atL [] e.c.progs r.prog) r.pc).a<(r.kids.length:Int) by omega)]
 rw [alV,bnd,abt,bnd,aac,bnd]
 rfl
theorem awl {α β:Type} {X:Option ((Bool×Unit)×(α×β×Unit))}:(X.bind fun r =>some ((r.1.1,()),(r.2.1,r.2.2.1,())))=X:=by cases X<;>rfl
theorem arI (hS:SOk st) (hT:IsT e (aaO st)) (hc:e.c.tasks=(e.recs.length:Int)) (X:Option ((Bool×Unit)×(RunV MV×EnvP×Unit))) (a b c:Option ((Bool×Unit)×(RunV MV×EnvP×Unit))) :
  (if aaO st<0 then a else if e.c.tasks≤aaO st then b else if (e.recs.length:Int)≤aaO st then c else X)=X:=by
 have h1:=hT.1
 have h2:=hT.2
 rw [if_neg (by omega),if_neg (by omega),if_neg (by omega)]
theorem alL (hS:SOk st) (hT:IsT e (aaO st)) (hc:e.c.tasks=(e.recs.length:Int)) (h:4≤ln∧ln≤8):abm ⟨o0,w,st,ln,m,id,ch,lv,wt⟩ e=abj ⟨o0,w,st,ln,m,id,ch,lv,wt⟩ e:=by
 unfold abm
 try unfold tpI
 try unfold tlI
 simp only [aav,abh,o0,bnd,hS.n,hS.a,hS.g,if_true,Bool.false_eq_true,if_false,awl,arI hS hT hc]
 rw [if_neg (by omega),if_neg (by omega),if_neg (by omega),if_neg (by omega),if_pos h.1,if_pos h.2]
theorem aj7 (hS:SOk st) (hT:IsT e (aaO st)) (hc:e.c.tasks=(e.recs.length:Int)) (h:9≤ln∧ln≤15):abm ⟨o0,w,st,ln,m,id,ch,lv,wt⟩ e=aaK ⟨o0,w,st,ln,m,id,ch,lv,wt⟩ e:=by
 unfold abm
 try unfold tpI
 try unfold tlI
 simp only [aav,abh,o0,bnd,hS.n,hS.a,hS.g,if_true,Bool.false_eq_true,if_false,awl,arI hS hT hc]
 rw [if_neg (by omega),if_neg (by omega),if_neg (by omega),if_neg (by omega),if_pos (show 4≤ln by omega),if_neg (by omega),if_pos h.1,if_pos h.2]
theorem ahP (hS:SOk st) (hT:IsT e (aaO st)) (hc:e.c.tasks=(e.recs.length:Int)) (h:16≤ln):abm ⟨o0,w,st,ln,m,id,ch,lv,wt⟩ e=aaq ⟨o0,w,st,ln,m,id,ch,lv,wt⟩ e:=by
 unfold abm
 try unfold tpI
 try unfold tlI
 simp only [aav,abh,o0,bnd,hS.n,hS.a,hS.g,if_true,Bool.false_eq_true,if_false,awl,arI hS hT hc]
 rw [if_neg (by omega),if_neg (by omega),if_neg (by omega),if_neg (by omega),if_pos (show 4≤ln by omega),if_neg (by omega),if_pos (show 9≤ln by omega),if_neg (by omega)]
theorem aBk (hS:SOk st) (hT:IsT e (aaO st)) (hc:e.c.tasks=(e.recs.length:Int)) {c:Int} (h:afr (e.rc (aaO st)) (e.prog (e.rc (aaO st)))=c) (hR:0≤aaO st∧aaO st<(e.recs.length:Int)) :
  abm ⟨o0,w,st,0,m,id,ch,lv,wt⟩ e=if c=4 then abj ⟨o0,w,st,4,.alloc ⟨o0⟩,id,ch,lv,wt⟩ e else if c=1∨c=2∨c=3 then aaF ⟨o0,w,st,c,m,id,ch,lv,wt⟩ e else if c=9 then aaK ⟨o0,w,st,c,m,id,ch,lv,wt⟩ e else aaq ⟨o0,w,st,c,m,id,ch,lv,wt⟩ e:=by
 have hch:=aAe (x:=⟨⟨false,0,0⟩,w,st,0,m,id,ch,lv,wt⟩) hS hR
 simp only [h] at hch
 have hv:c=1∨c=16∨c=2∨c=4∨c=3∨c=9:=by
  rw [← h]
  unfold afr
  repeat' split
  all_goals simp
 unfold abm
 try unfold tpI
 try unfold tlI
 simp only [aav,abh,o0,bnd,hS.n,hS.a,hS.g,if_true,Bool.false_eq_true,if_false,awl,arI hS hT hc,hch,aeU]
 rcases hv with rfl | rfl | rfl | rfl | rfl | rfl<;>simp only [Int.reduceEq,Int.reduceLE,if_true,if_false,or_self,or_true,true_or,false_or,or_false]
end
end
section
open Go Go.RowKit
set_option maxRecDepth 100000
@[reducible] def aGv (l : LayV) (w id lv wt : Int) : RunC → Int × MV
 | .next =>(0,.nil)
 | .s2 s =>(5,.publish (alO id lv s))
 | .s3 s =>(6,.lpush (apQ l w lv id s))
 | .s4 s =>(7,.wake (atj w lv s))
 | .s5 =>(8,.claim ⟨o0,w,id⟩)
 | .j2 =>(10,.nil)
 | .j3 =>(11,.nil)
 | .j4 =>(12,.nil)
 | .j5 s =>(13,.walk (aDn l w lv s))
 | .j6 =>(14,.nil)
 | .j7 =>(15,.nil)
 | .f2 =>(17,.nil)
 | .f3 =>(18,.nil)
 | .f4 s =>(19,.enter (azR l w wt s))
 | .f5 v s =>(20,.wake (atj w v s))
 | .f6 =>(21,.claim ⟨o0,w,wt⟩)
@[reducible] def aH6 (l : LayV) (w : Int) (r : RunS) : RunV MV :=
 ⟨o0,w,r.stack,(aGv l w r.id r.level r.waiter r.c).1,(aGv l w r.id r.level r.waiter r.c).2,r.id,r.child,r.level,r.waiter⟩
section
variable [Tb] {K:Nat} {e:EnvP} {w:Int}
theorem ahV {l:LayV} {e':EnvP} {st:List Int} {ln id ch lv wt:Int} {m:MV} {c:RunC} (hS:SOk st):aaW RunV.o (aH6 l w) ((aao ⟨⟨false,0,0⟩,w,st,ln,m,id,ch,lv,wt⟩).bind fun r =>some ((r.1.1,()),(r.2.1,e',()))) (ahW ⟨st,id,ch,lv,wt,c⟩ e'):=by
 have h1:=List.length_pos_iff.2 hS.ne
 have h2:=hS.le
 unfold aao ahW
 try simp only [tpI,tlI]
 simp only [tpI,tlI,hS.n,hS.g2,hS.t,if_true,List.length_dropLast,abh,aac,bnd,acn,aa1]
 by_cases hl:st.length=1
 ·rw [if_pos (by omega),if_pos hl]; exact ⟨_,rfl,rfl⟩
 ·rw [if_neg (by omega),if_neg hl]; rfl
theorem aD4 (hK:EOk K e) (hk:K≤100000000) (r:RunS) (hS:SOk r.stack):aaW RunV.o (aH6 e.l w) (abm (aH6 e.l w r) e) (au2 w e r):=by
 have hl:e.evs.length≤999999999:=by have:=hK.ev; omega
 obtain ⟨st,id,ch,lv,wt,c⟩:=r
 have hS:SOk st:=hS
 unfold au2
 by_cases hT:IsT e (aaO st)
 ·have hR:0≤aaO st∧aaO st<(e.recs.length:Int):=⟨hT.1,by have:=hT.2; have:=hK.ct; omega⟩
  have hct:=hK.ct
  have he:∀ (x:RunV MV) (e':EnvP) (_:e'.evs.length≤999999999) (v:Ev),aaG x e' v=some ((),(x,{ e' with evs:=e'.evs++[{ v with worker:=x.worker }] },())):=fun x e' h v =>amT h
  rw [if_neg (fun h =>h hT)]
  unfold afZ
  cases c with
  | next =>
   simp only [at3]
   have hkd:(e.rc (aaO st)).kids.length≤999999999:=by have:=arO hR K hK.kd; omega
   have hnx:=fun c h =>aBk (w:=w) (id:=id) (ch:=ch) (lv:=lv) (wt:=wt) (m:=.nil) hS hT hct (c:=c) h hR
   by_cases c1:(e.rc (aaO st)).waiting ≠ -1
   ·rw [if_pos c1]
    rw [hnx 1 (by unfold afr; rw [if_pos c1])]
    simp only [Int.reduceEq,if_false,true_or,if_true]
    rw [aDX hS hR]
    rfl
   rw [if_neg c1]
   by_cases c2:(e.rc (aaO st)).pc<0∨((e.prog (e.rc (aaO st))).length:Int)≤(e.rc (aaO st)).pc
   ·rw [if_pos c2]
    rw [hnx 16 (by unfold afr; rw [if_neg c1,if_pos c2])]
    simp only [Int.reduceEq,if_false,or_self]
    simp only [tpI,tlI,aaq,hS.n,hS.a,hS.g,if_true,ae0,abt,aac,bnd]
    rfl
   rw [if_neg c2]
   by_cases c3:(acu (e.prog (e.rc (aaO st))) (e.rc (aaO st)).pc).op=0
   ·rw [if_pos c3]
    rw [hnx 2 (by unfold afr; rw [if_neg c1,if_neg c2,if_pos c3])]
    simp only [Int.reduceEq,if_false,false_or,true_or,or_true,if_true]
    rw [aDW hS hR c2]
    rfl
   rw [if_neg c3]
   by_cases c4:(acu (e.prog (e.rc (aaO st))) (e.rc (aaO st)).pc).op=1
   ·rw [if_pos c4]
    rw [hnx 4 (by unfold afr; rw [if_neg c1,if_neg c2,if_neg c3,if_pos c4])]
    obtain ⟨x',h,ho⟩:=auJ (e:=e)
    simp only [tpI,tlI,if_true,abj,aeV,bnd,h,adD,Bool.not_true,Bool.false_eq_true,if_false]
    by_cases ci:IsT e (wi (e.gt 0))
    ·rw [if_pos ci] at ho ⊢
     have hv:0≤wi (e.gt 0)∧wi (e.gt 0)<((aff e).recs.length:Int):=⟨ci.1,by have:=ci.2; show _<(e.recs.length:Int); omega⟩
     have ha:=aAz (e:=aff e) (o:=o0) (w:=w) (id:=id) (ch:=ch) (lv:=lv) (wt:=wt) (m:=.alloc x') hS hR c2 hkd (wi (e.gt 0)) hv
     simp only [ho]
     rw [ha]
     rfl
    ·rw [if_neg ci] at ho ⊢
     have ha:=axQ (e:=aff e) (o:=o0) (w:=w) (id:=id) (ch:=ch) (lv:=lv) (wt:=wt) (m:=.alloc x') hS hR c2 hl hkd 0
     simp only [ho]
     rw [ha]
     rfl
   rw [if_neg c4]
   by_cases c5:(acu (e.prog (e.rc (aaO st))) (e.rc (aaO st)).pc).a<0∨((e.rc (aaO st)).kids.length:Int)≤(acu (e.prog (e.rc (aaO st))) (e.rc (aaO st)).pc).a∨ahz (e.rc (aaO st)).kids (acu (e.prog (e.rc (aaO st))) (e.rc (aaO st)).pc).a=-1
   ·rw [if_pos c5]
    rw [hnx 3 (by unfold afr; rw [if_neg c1,if_neg c2,if_neg c3,if_neg c4,if_pos c5])]
    simp only [Int.reduceEq,if_false,false_or,or_true,if_true]
    rw [aDV hS hR]
    rfl
   ·rw [if_neg c5]
    rw [hnx 9 (by unfold afr; rw [if_neg c1,if_neg c2,if_neg c3,if_neg c4,if_neg c5])]
    simp only [Int.reduceEq,if_false,or_self,if_true]
    rw [aIX hS hR c2 (fun h =>c5 (h.elim .inl fun h =>.inr (.inl h)))]
    rfl
  | s2 s =>
   have h:=au8 (e:=e) (t:=id) (v:=lv) s
   have hn:=aq1 (e:=e) (t:=id) (v:=lv) s
   simp only [alL hS hT hct (show (4:Int)≤5∧(5:Int)≤8 by decide)]
   revert h hn
   simp only [tpI,tlI,abj,aeV,bnd]
   rcases afx id lv e s with ⟨r | ⟨c,y⟩,e'⟩<;>intro h hn
   ·simp only [aaW] at h
    simp only [h,bnd,Bool.not_false,if_true]
    rfl
   ·simp only [aaW] at h
    obtain ⟨x',h,ho⟩:=h
    have hl':e'.evs.length≤999999999:=by have h1:e'.evs.length≤e.evs.length+0:=hn.ev; have:=hK.ev; omega
    simp only [tpI,tlI,h,ho,adD,bnd,Bool.not_true,Bool.false_eq_true,if_false,if_true,Int.reduceEq,hS.n,hS.a,hS.g,he _ e' hl',acH,aac]
    rfl
  | s3 s =>
   have h:=ajD (w:=w) (v:=lv) (x:=id) hK s
   simp only [alL hS hT hct (show (4:Int)≤6∧(6:Int)≤8 by decide)]
   revert h
   simp only [tpI,tlI,abj,aeV,bnd]
   rcases ace w lv id e s with ⟨r | ⟨c,y⟩,e'⟩<;>intro h
   ·simp only [aaW] at h
    simp only [h,bnd,Bool.not_false,if_true]
    rfl
   ·simp only [aaW] at h
    obtain ⟨x',h,ho⟩:=h
    simp only [tpI,tlI,h,ho,adD,bnd,Bool.not_true,Bool.false_eq_true,if_false,if_true,Int.reduceEq,acF,ac8,aac]
    by_cases hc:c=3
    ·simp only [hc,if_true]; rfl
    ·simp only [hc,if_false]; rfl
  | s4 s =>
   have h:=als (e:=e) (w:=w) (v:=lv) hl s
   simp only [alL hS hT hct (show (4:Int)≤7∧(7:Int)≤8 by decide)]
   revert h
   simp only [tpI,tlI,abj,aeV,bnd]
   rcases aev w lv e s with ⟨r | ⟨c,y⟩,e'⟩<;>intro h
   ·simp only [aaW] at h
    simp only [h,bnd,Bool.not_false,if_true]
    rfl
   ·simp only [aaW] at h
    obtain ⟨x',h,ho⟩:=h
    simp only [tpI,tlI,h,ho,adD,bnd,Bool.not_true,Bool.false_eq_true,if_false,if_true,Int.reduceEq,aac]
    rfl
  | s5 =>
   obtain ⟨x',h,ho⟩:=amx (w:=w) (t:=id) hl hK.st
   simp only [alL hS hT hct (show (4:Int)≤8∧(8:Int)≤8 by decide)]
   simp only [tpI,tlI,abj,aeV,bnd,h,adD,Bool.not_true,Bool.false_eq_true,if_false,if_true,Int.reduceEq,aac]
   have hsl:((st.length+([id]:List Int).length:Nat):Int)<1000000000000:=by
    have h2:st.length≤999999999:=hS.le
    clear hR hct hl hk hK
    trace_state
    rw [List.length_singleton]
    omega
   rcases Bool.eq_false_or_eq_true (ahn id e) with hc | hc
   ·simp only [hc,if_true] at ho ⊢
    simp only [ho,if_true,hsl]
    rfl
   ·simp only [hc,Bool.false_eq_true,if_false] at ho ⊢
    simp only [ho,Int.reduceEq,if_false]
    rfl
  | j2 =>
   simp only [tpI,tlI,aj7 hS hT hct (show (9:Int)≤10∧(10:Int)≤15 by decide),aaK,hS.n,hS.a,hS.g,if_true,Int.reduceEq,if_false,ae0,abt,aac,bnd]
   rfl
  | j3 =>
   simp only [tpI,tlI,aj7 hS hT hct (show (9:Int)≤11∧(11:Int)≤15 by decide),aaK,hS.n,hS.a,hS.g,if_true,Int.reduceEq,if_false,arZ,ajB,aac,he _ { e with m:=e.m.cas (ag3 e.l ch) 0 (wu (wi (aaO st+1))) } hl,bnd]
   exact aaW.iteN (fun _ =>rfl) fun _ =>rfl
  | j4 =>
   simp only [tpI,tlI,aj7 hS hT hct (show (9:Int)≤12∧(12:Int)≤15 by decide),aaK,hS.n,hS.a,hS.g,if_true,Int.reduceEq,if_false,afM,abx,ajU,aac,bnd]
   rfl
  | j5 s =>
   have h:=aAT (w:=w) (v:=lv) hK hk s
   have hn:=axY (e:=e) (w:=w) (v:=lv) s
   simp only [aj7 hS hT hct (show (9:Int)≤13∧(13:Int)≤15 by decide)]
   revert h hn
   simp only [tpI,tlI,aaK,hS.n,hS.a,hS.g,if_true,Int.reduceEq,if_false,aeV,bnd]
   rcases af8 w lv e s with ⟨r | ⟨c,y⟩,e'⟩<;>intro h hn
   ·simp only [aaW] at h
    simp only [h,bnd,Bool.not_false,if_true]
    rfl
   ·simp only [aaW] at h
    obtain ⟨x',h,ho⟩:=h
    have hl':e'.evs.length≤999999999:=by have h1:e'.evs.length≤e.evs.length+1:=hn.ev; have:=hK.ev; omega
    simp only [h,bnd,Bool.not_true,Bool.false_eq_true,if_false,he _ e' hl']
    exact ahV hS
  | j6 =>
   simp only [tpI,tlI,aj7 hS hT hct (show (9:Int)≤14∧(14:Int)≤15 by decide),aaK,hS.n,hS.a,hS.g,if_true,Int.reduceEq,if_false,ae0,abt,aac,bnd]
   rfl
  | j7 =>
   simp only [tpI,tlI,aj7 hS hT hct (show (9:Int)≤15∧(15:Int)≤15 by decide),aaK,hS.n,hS.a,hS.g,hR,and_self,if_true,Int.reduceEq,if_false,alV,abt,aac,bnd]
   have he2:∀ (x:RunV MV) (m':MemV) (rs:List RecP) (v:Ev),aaG x { e with m:=m',recs:=rs } v=some ((),(x,{ e with m:=m',recs:=rs,evs:=e.evs++[{ v with worker:=x.worker }] },())):=fun x m' rs v =>amT (e:={ e with m:=m',recs:=rs }) hl
   rw [he2,bnd]
   rfl
  | f2 =>
   simp only [tpI,tlI,ahP hS hT hct (show (16:Int)≤17 by decide),aaq,hS.n,hS.a,hS.g,if_true,Int.reduceEq,if_false,arZ,ajB,aac,he _ { e with m:=e.m.cas (ag3 e.l (aaO st)) 0 4294967296 } hl,bnd]
   refine aaW.ite (fun _ =>?_) fun _ =>rfl
   exact ahV hS
  | f3 =>
   simp only [tpI,tlI,ahP hS hT hct (show (16:Int)≤18 by decide),aaq,hS.n,hS.a,hS.g,if_true,Int.reduceEq,if_false,arZ,abx,aac,ahC,bnd]
   by_cases h1:wi (wi (e.m.gt (ag3 e.l (aaO st)))-1)<0
   ·rw [if_pos h1,if_neg (show ¬ IsT e (wi (wi (e.m.gt (ag3 e.l (aaO st)))-1)) from fun h =>by have:=h.1; omega)]
    exact ahV hS
   by_cases h2:e.c.tasks≤wi (wi (e.m.gt (ag3 e.l (aaO st)))-1)
   ·rw [if_neg h1,if_pos h2,if_neg (show ¬ IsT e (wi (wi (e.m.gt (ag3 e.l (aaO st)))-1)) from fun h =>by have:=h.2; omega)]
    exact ahV hS
   ·rw [if_neg h1,if_neg h2,if_pos (show IsT e (wi (wi (e.m.gt (ag3 e.l (aaO st)))-1)) from ⟨by omega,by omega⟩)]
    rfl
  | f4 s =>
   have h:=azQ (w:=w) (t:=wt) hK s
   simp only [ahP hS hT hct (show (16:Int)≤19 by decide)]
   revert h
   simp only [tpI,tlI,aaq,hS.n,hS.a,hS.g,if_true,Int.reduceEq,if_false,aeV,bnd]
   rcases adZ w wt e s with ⟨r | ⟨c,y⟩,e'⟩<;>intro h
   ·simp only [aaW] at h
    simp only [h,bnd,Bool.not_false,if_true]
    rfl
   ·simp only [aaW] at h
    obtain ⟨x',h,ho⟩:=h
    simp only [tpI,tlI,h,ho,adD,bnd,Bool.not_true,Bool.false_eq_true,if_false,if_true,Int.reduceEq,acF,ac8,aac]
    by_cases hc:c=3
    ·simp only [hc,if_true]; rfl
    ·simp only [hc,if_false]; rfl
  | f5 v s =>
   have h:=als (e:=e) (w:=w) (v:=v) hl s
   simp only [ahP hS hT hct (show (16:Int)≤20 by decide)]
   revert h
   simp only [tpI,tlI,aaq,hS.n,hS.a,hS.g,if_true,Int.reduceEq,if_false,aeV,bnd]
   rcases aev w v e s with ⟨r | ⟨c,y⟩,e'⟩<;>intro h
   ·simp only [aaW] at h
    simp only [h,bnd,Bool.not_false,if_true]
    rfl
   ·simp only [aaW] at h
    obtain ⟨x',h,ho⟩:=h
    simp only [h,ho,adD,bnd,Bool.not_true,Bool.false_eq_true,if_false]
    exact ahV hS
  | f6 =>
   obtain ⟨x',h,ho⟩:=amx (w:=w) (t:=wt) hl hK.st
   simp only [ahP hS hT hct (show (16:Int)≤21 by decide)]
   simp only [tpI,tlI,aaq,hS.n,hS.a,hS.g,hS.s,aeV,bnd,h,adD,Bool.not_true,Bool.false_eq_true,if_false,if_true,Int.reduceEq,aac]
   rcases Bool.eq_false_or_eq_true (ahn wt e) with hc | hc
   ·simp only [hc,if_true] at ho ⊢
    simp only [ho,if_true]
    rfl
   ·simp only [hc,Bool.false_eq_true,if_false] at ho ⊢
    simp only [ho,Int.reduceEq,if_false]
    exact ahV hS
 ·rw [if_pos hT]
  have hb:aaO st<0∨e.c.tasks≤aaO st:=by
   unfold IsT at hT
   omega
  simp only [tpI,tlI,abm,aav,abh,o0,bnd,hS.n,hS.a,hS.g,if_true,Bool.false_eq_true,if_false]
  rcases hb with hb | hb
  ·rw [if_pos hb]; exact ⟨_,rfl,rfl⟩
  ·by_cases h0:aaO st<0
   ·rw [if_pos h0]; exact ⟨_,rfl,rfl⟩
   ·rw [if_neg h0,if_pos hb]; exact ⟨_,rfl,rfl⟩
end
@[reducible] def aCO (l : LayV) (w vi lv x : Int) : WorkC → Int × MV
 | .top =>(0,.nil)
 | .t1 t s =>(1,.sweep (agR l w t s))
 | .t2 s =>(2,.take (aDu l w s))
 | .t3 s =>(3,.drain (aw4 l w s))
 | .t4 s =>(4,.probe (alR w s))
 | .t5 s =>(5,.steal (av9 (aax l vi lv) s))
 | .t6 =>(6,.claim ⟨o0,w,x⟩)
 | .t7 s =>(7,.run (aH6 l w s))
 | .t8 s =>(8,.sleep (atq w s))
 | .t9 s =>(9,.reset (atC (aaN l vi) lv (aax l vi lv) s))
@[reducible] def aen (l : LayV) (w : Int) (k : WorkS) : WorkerV MV :=
 ⟨w,k.cursor,(aCO l w k.victim k.level k.x k.c).1,(aCO l w k.victim k.level k.x k.c).2,k.victim,k.level,k.x⟩
def aH3 (K:Nat) (r:RunS):Prop:=r.stack≠[]∧r.stack.length≤K
def aib (K:Nat) (n:Int) (k:WorkS):Prop:=match k.c with
 | .t3 s =>as9 s
 | .t4 s =>anH n s
 | .t7 s =>aH3 K s
 | _ =>True
section
variable [Tb] {K:Nat} {e:EnvP} {w:Int}
theorem amh {j:Nat} {e':EnvP} {r:RunS} (h:Stp j e e'):Stp j e (ahW r e').2:=h
theorem aEl {a v t:Int} {r:RecP} (hr:∀ K,(∀ r∈e.recs,r.kids.length≤K)→r.kids.length≤K+1):Stp 0 e ((e.pt 2 a v).pr t r):=Stp.pr (Stp.pt (by decide)) hr
theorem az5 {x:RecP} {i:Ins}:(axJ x i).kids=x.kids:=by
 unfold axJ
 repeat' split
 all_goals rfl
theorem aGt (hK:EOk K e) (r:RunS):Stp 2 e (au2 w e r).2:=by
 obtain ⟨st,id,ch,lv,wt,c⟩:=r
 unfold au2
 by_cases hT:IsT e (aaO st)
 ·have hR:0≤aaO st∧aaO st<(e.recs.length:Int):=⟨hT.1,by have:=hT.2; have:=hK.ct; omega⟩
  have hkid:∀ K,(∀ r∈e.recs,r.kids.length≤K)→(e.rc (aaO st)).kids.length≤K+1:=fun K h =>Nat.le_succ_of_le (arO hR K h)
  have hkid1:∀ v:Int,∀ K,(∀ r∈e.recs,r.kids.length≤K)→((e.rc (aaO st)).kids++[v]).length≤K+1:=fun v K h =>by
   have:=arO hR K h
   rw [List.length_append,List.length_singleton]; omega
  rw [if_neg (fun h =>h hT)]
  cases c with
  | next =>
   simp only [afZ,at3]
   split
   ·exact Stp.le (aEl hkid) (Nat.zero_le _)
   split
   ·exact Stp.le (.pt (by decide)) (by decide)
   split
   ·exact Stp.le (Stp.pr Stp.refl fun K h =>by rw [az5]; exact hkid K h) (Nat.zero_le _)
   split
   ·split
    ·exact Stp.le (Stp.pr (Stp.pr aoZ (hkid1 _)) fun K h =>Nat.zero_le _) (Nat.zero_le _)
    ·exact Stp.le (Stp.em (Stp.pr aoZ (hkid1 _))) (Nat.le_succ 1)
   split
   ·exact Stp.le (Stp.pr Stp.refl hkid) (Nat.zero_le _)
   ·exact Stp.le (aEl hkid) (Nat.zero_le _)
  | s2 s =>
   have h:=aq1 (e:=e) (t:=id) (v:=lv) s
   revert h
   simp only [afZ]
   rcases afx id lv e s with ⟨r | ⟨c,y⟩,e'⟩<;>intro h
   ·exact h.le (by decide)
   ·exact h.em.le (by decide)
  | s3 s =>
   have h:=agD (e:=e) (w:=w) (v:=lv) (x:=id) s
   revert h
   simp only [afZ]
   rcases ace w lv id e s with ⟨r | ⟨c,y⟩,e'⟩<;>intro h<;>exact h.le (by decide)
  | s4 s =>
   have h:=ao3 (e:=e) (w:=w) (v:=lv) s
   revert h
   simp only [afZ]
   rcases aev w lv e s with ⟨r | ⟨c,y⟩,e'⟩<;>intro h<;>exact h.le (by decide)
  | s5 =>exact (amy (w:=w) (t:=id) hK.st).le (by decide)
  | j2 =>exact Stp.le (.pt (by decide)) (by decide)
  | j3 =>
   simp only [afZ]
   split
   ·exact Stp.cas.em.le (by decide)
   ·exact Stp.cas.le (by decide)
  | j4 =>exact Stp.lk.le (by decide)
  | j5 s =>
   have h:=axY (e:=e) (w:=w) (v:=lv) s
   revert h
   simp only [afZ]
   rcases af8 w lv e s with ⟨r | ⟨c,y⟩,e'⟩<;>intro h
   ·exact h.le (by decide)
   ·exact amh h.em
  | j6 =>exact Stp.le (.pt (by decide)) (by decide)
  | j7 =>exact Stp.le (Stp.em (aEl hkid)) (Nat.le_succ 1)
  | f2 =>
   simp only [afZ]
   split
   ·exact amh (Stp.cas.em.le (by decide))
   ·exact Stp.cas.em.le (by decide)
  | f3 =>
   simp only [afZ]
   split
   ·exact Stp.lk.le (by decide)
   ·exact amh (Stp.lk.le (by decide))
  | f4 s =>
   have h:=aCj (e:=e) (w:=w) (t:=wt) s
   revert h
   simp only [afZ]
   rcases adZ w wt e s with ⟨r | ⟨c,y⟩,e'⟩<;>intro h<;>exact h.le (by decide)
  | f5 v s =>
   have h:=ao3 (e:=e) (w:=w) (v:=v) s
   revert h
   simp only [afZ]
   rcases aev w v e s with ⟨r | ⟨c,y⟩,e'⟩<;>intro h
   ·exact h.le (by decide)
   ·exact amh (h.le (by decide))
  | f6 =>
   simp only [afZ]
   split
   ·exact (amy (w:=w) (t:=wt) hK.st).le (by decide)
   ·exact amh ((amy (w:=w) (t:=wt) hK.st).le (by decide))
 ·rw [if_pos hT]; exact Stp.refl.le (by decide)
theorem amg {r r':RunS} {e e':EnvP} (hr:r.stack≠[]) (h:ahW r e=(.go r',e')):r'.stack≠[]∧r'.stack.length≤r.stack.length+1:=by
 have h1:=List.length_pos_iff.2 hr
 unfold ahW at h
 split at h
 ·cases h
 ·cases h
  refine ⟨List.length_pos_iff.1 ?_,?_⟩<;>simp only [List.length_dropLast]<;>omega
theorem aGs {r r':RunS} {e':EnvP} (hr:r.stack≠[]) (h:au2 w e r=(.go r',e')):r'.stack≠[]∧r'.stack.length≤r.stack.length+1:=by
 obtain ⟨st,id,ch,lv,wt,c⟩:=r
 have hr:st≠[]:=hr
 have hz:st≠[]∧st.length≤st.length+1:=⟨hr,Nat.le_succ _⟩
 unfold au2 at h
 split at h
 ·cases h
 cases c with
 | next =>
  simp only [afZ,at3] at h
  repeat' split at h
  all_goals cases h; exact hz
 | s2 s =>
  simp only [afZ] at h
  split at h<;>cases h<;>exact hz
 | s3 s =>
  simp only [afZ] at h
  split at h<;>cases h<;>exact hz
 | s4 s =>
  simp only [afZ] at h
  split at h<;>cases h<;>exact hz
 | s5 =>
  simp only [afZ] at h
  cases h
  split
  ·refine ⟨by simp,?_⟩
   simp only [List.length_append,List.length_singleton]; omega
  ·exact hz
 | j2 =>cases h; exact hz
 | j3 =>
  simp only [afZ] at h
  split at h<;>cases h<;>exact hz
 | j4 =>cases h; exact hz
 | j5 s =>
  simp only [afZ] at h
  split at h
  ·cases h; exact hz
  ·exact amg hr h
 | j6 =>cases h; exact hz
 | j7 =>cases h; exact hz
 | f2 =>
  simp only [afZ] at h
  split at h
  ·exact amg hr h
  ·cases h; exact hz
 | f3 =>
  simp only [afZ] at h
  split at h
  ·cases h; exact hz
  ·exact amg (r:=⟨st,id,ch,lv,wi (wi (e.gt (ag3 e.l (aaO st)))-1),.f3⟩) hr h
 | f4 s =>
  simp only [afZ] at h
  split at h<;>cases h<;>exact hz
 | f5 v s =>
  simp only [afZ] at h
  split at h
  ·cases h; exact hz
  ·exact amg hr h
 | f6 =>
  simp only [afZ] at h
  split at h
  ·cases h
   refine ⟨by simp,?_⟩
   simp only [List.length_append,List.length_singleton,List.length_dropLast]; omega
  ·exact amg hr h
theorem aBa {cur vi lv x:Int}:aah ⟨w,cur,0,.nil,vi,lv,x⟩ e=aah (aen e.l w ⟨cur,vi,lv,x,acb w e ⟨cur,vi,lv,x,.top⟩⟩) e:=by
 unfold acb
 by_cases ha:e.c.age=0
 ·simp only [ha,if_true,aah,aee,aaf,afu,afO,bnd,if_false,Int.reduceEq,atl,Int.reduceLE,o0]
 ·simp only [ha,if_false,aah,aee,aaf,anF,ana,bnd,if_true,Int.reduceEq,Int.reduceLE,o0]
def axm (l:LayV) (w:Int) (res:Option ((Bool×Unit)×(WorkerV MV×EnvP×Unit))) (r:WorkS×EnvP):Prop:=res=some ((false,()),(aen l w r.1,r.2,()))
theorem axm.ite {l:LayV} {c:Prop} [Decidable c] {a b:Option ((Bool×Unit)×(WorkerV MV×EnvP×Unit))} {r s:WorkS×EnvP} (h1:c→axm l w a r) (h2:¬ c→axm l w b s):axm l w (if c then a else b) (if c then r else s):=by
 by_cases h:c
 ·rw [if_pos h,if_pos h]; exact h1 h
 ·rw [if_neg h,if_neg h]; exact h2 h
theorem ao1 {c:Prop} [Decidable c] {x y:WorkS} {e:EnvP}:((if c then x else y),e)=if c then (x,e) else (y,e):=by split<;>rfl
theorem atf (hK:EOk K e) (hk:K≤100000000) (k:WorkS) (hc:k.c≠.top) (hW:aib K (ab6 e) k):axm e.l w (aah (aen e.l w k) e) (acZ w e k):=by
 have hl:e.evs.length≤999999999:=by have:=hK.ev; omega
 obtain ⟨cur,vi,lv,x,c⟩:=k
 cases c with
 | top =>exact absurd rfl hc
 | t1 t s =>
  have h:=ax7 (w:=w) (t:=t) hK hk s
  revert h
  simp only [acZ,acb,aah,adV,bnd,Int.reduceEq,if_false]
  rcases abA w t e s with ⟨r | ⟨c,y⟩,e'⟩<;>intro h
  ·simp only [aaW] at h
   simp only [h,bnd,Bool.not_false,if_true]
   rfl
  ·simp only [aaW] at h
   obtain ⟨x',h,ho⟩:=h
   simp only [h,ho,abu,ab1,aaf,afu,afO,bnd,Bool.not_true,Bool.false_eq_true,if_true,if_false,Int.reduceEq,Int.reduceLE]
   rfl
 | t2 s =>
  have h:=aAZ (w:=w) hK hk s
  revert h
  simp only [acZ,acb,aah,adV,bnd,Int.reduceEq,if_false]
  rcases ak0 w e s with ⟨r | ⟨c,y⟩,e'⟩<;>intro h
  ·simp only [aaW] at h
   simp only [h,bnd,Bool.not_false,if_true]
   rfl
  ·simp only [aaW] at h
   obtain ⟨x',h,ho⟩:=h
   simp only [tpI,tlI,h,ho,abu,ab1,adp,aaf,alK,akn,bnd,Bool.not_true,Bool.false_eq_true,if_true,if_false,Int.reduceEq,Int.reduceLE,acn,ao1]
   exact axm.ite (fun _ =>rfl) fun _ =>rfl
 | t3 s =>
  have h:=azX (w:=w) hK hk s hW
  revert h
  simp only [acZ,acb,aah,adV,bnd,Int.reduceEq,if_false]
  rcases abI w e s with ⟨r | ⟨c,y⟩,e'⟩<;>intro h
  ·simp only [aaW] at h
   simp only [h,bnd,Bool.not_false,if_true]
   rfl
  ·simp only [aaW] at h
   obtain ⟨x',h,ho⟩:=h
   simp only [h,ho,abu,ab1,acE,abc,acF,afu,afO,adM,am4,aaf,bnd,Bool.not_true,Bool.false_eq_true,if_true,if_false,Int.reduceEq,Int.reduceLE,acn,ao1]
   refine axm.ite (fun _ =>rfl) fun _ =>axm.ite (fun _ =>rfl) fun _ =>?_
   unfold ap3
   by_cases h1:e'.c.workers=1
   ·rw [if_pos h1,if_pos h1]; rfl
   ·rw [if_neg h1,if_neg h1]; rfl
 | t4 s =>
  have h:=ayG (w:=w) hK.wk s hW
  have hn:=awp (e:=e) (w:=w) s
  revert h hn
  simp only [acZ,acb,aah,adV,bnd,Int.reduceEq,if_false]
  rcases akP w e s with ⟨r | ⟨c,y⟩,e'⟩<;>intro h hn
  ·simp only [aaW] at h
   simp only [h,bnd,Bool.not_false,if_true]
   rfl
  ·simp only [aaW] at h
   obtain ⟨x',h,ho⟩:=h
   have hnl:e'.l=e.l:=hn.l
   simp only [h,ho,abu,ab1,adQ,adM,ajy,aaf,bnd,Bool.not_true,Bool.false_eq_true,if_true,if_false,Int.reduceEq,Int.reduceLE,acn,ao1,hnl]
   exact axm.ite (fun _ =>rfl) fun _ =>rfl
 | t5 s =>
  have h:=ax9 (e:=e) (hK.q vi lv) s
  have hn:=av8 (e:=e) (q:=aax e.l vi lv) s
  revert h hn
  simp only [acZ,acb,aah,adV,bnd,Int.reduceEq,if_false]
  rcases aiS (aax e.l vi lv) e s with ⟨r | ⟨c,y⟩,e'⟩<;>intro h hn
  ·simp only [aaW] at h
   simp only [h,bnd,Bool.not_false,if_true]
   rfl
  ·simp only [aaW] at h
   obtain ⟨x',h,ho⟩:=h
   have hnl:e'.l=e.l:=hn.l
   have hl':e'.evs.length≤999999999:=by have h1:e'.evs.length≤e.evs.length+0:=hn.ev; have:=hK.ev; omega
   simp only [h,ho,abu,adU,acE,aaY,acF,ag7,aeN,ajy,acj hl',aaf,bnd,Bool.not_true,Bool.false_eq_true,if_true,if_false,Int.reduceEq,Int.reduceLE,acn,hnl]
   exact axm.ite (fun _ =>by simp only [axm,EnvP.em,hnl]) fun _ =>axm.ite (fun _ =>rfl) fun _ =>rfl
 | t6 =>
  obtain ⟨x',h,ho⟩:=amx (w:=w) (t:=x) hl hK.st
  simp only [tpI,tlI,acZ,acb,aah,adV,h,abu,adp,aaY,aaf,alK,bnd,Bool.not_true,Bool.false_eq_true,if_true,if_false,Int.reduceEq,Int.reduceLE]
  rcases Bool.eq_false_or_eq_true (ahn x e) with hc | hc
  ·simp only [hc,if_true] at ho ⊢
   simp only [ho,if_true]
   rfl
  ·simp only [hc,Bool.false_eq_true,if_false] at ho ⊢
   simp only [ho,Int.reduceEq,if_false]
   rfl
 | t7 s =>
  have h:=aD4 (w:=w) hK hk s ⟨hW.1,by have:=hW.2; omega⟩
  revert h
  simp only [acZ,acb,aah,adV,bnd,Int.reduceEq,if_false]
  rcases au2 w e s with ⟨r | ⟨c,y⟩,e'⟩<;>intro h
  ·simp only [aaW] at h
   simp only [h,bnd,Bool.not_false,if_true]
   rfl
  ·simp only [aaW] at h
   obtain ⟨x',h,ho⟩:=h
   simp only [h,ho,abu,aaY,bnd,Bool.not_true,Bool.false_eq_true,if_true,if_false,Int.reduceEq,Int.reduceLE]
   rfl
 | t8 s =>
  have h:=ayh (w:=w) hl s
  revert h
  simp only [acZ,acb,aah,adV,bnd,Int.reduceEq,if_false]
  rcases agk w e s with ⟨r | ⟨c,y⟩,e'⟩<;>intro h
  ·simp only [aaW] at h
   simp only [h,bnd,Bool.not_false,if_true]
   rfl
  ·simp only [aaW] at h
   obtain ⟨x',h,ho⟩:=h
   simp only [h,ho,abu,aaY,bnd,Bool.not_true,Bool.false_eq_true,if_true,if_false,Int.reduceEq,Int.reduceLE]
   rfl
 | t9 s =>
  have h:=atB (e:=e) (a:=aaN e.l vi) (b:=lv) (q:=aax e.l vi lv) s
  revert h
  simp only [acZ,acb,aah,adV,bnd,Int.reduceEq,if_false]
  rcases agm (aaN e.l vi) lv (aax e.l vi lv) e s with ⟨r | ⟨c,y⟩,e'⟩<;>intro h
  ·simp only [aaW] at h
   simp only [h,bnd,Bool.not_false,if_true]
   rfl
  ·simp only [aaW] at h
   obtain ⟨x',h,ho⟩:=h
   simp only [h,ho,abu,aaY,bnd,Bool.not_true,Bool.false_eq_true,if_true,if_false,Int.reduceEq,Int.reduceLE]
   rfl
theorem ao2 {k:WorkS}:acb w e k≠.top:=by
 unfold acb
 split
 ·split<;>intro h<;>cases h
 ·rename_i h
  intro h2
  exact h h2
theorem aAS (hK:EOk K e) (hk:K≤100000000) (k:WorkS) (hW:aib K (ab6 e) k):axm e.l w (aah (aen e.l w k) e) (acZ w e k):=by
 obtain ⟨cur,vi,lv,x,c⟩:=k
 cases c with
 | top =>
  have h1:=atf (w:=w) hK hk ⟨cur,vi,lv,x,acb w e ⟨cur,vi,lv,x,.top⟩⟩ (show acb w e ⟨cur,vi,lv,x,.top⟩≠.top from ao2) (by
   unfold acb
   simp only
   split<;>trivial)
  have h2:acZ w e ⟨cur,vi,lv,x,acb w e ⟨cur,vi,lv,x,.top⟩⟩=acZ w e ⟨cur,vi,lv,x,.top⟩:=by
   unfold acb
   simp only
   by_cases ha:e.c.age=0
   ·simp only [acZ,acb,ha,if_true]
   ·simp only [acZ,acb,ha,if_false]
  rw [h2] at h1
  unfold axm at h1 ⊢
  rw [← h1]
  exact aBa
 | _ =>exact atf hK hk _ (fun h =>by cases h) hW
end
@[reducible] def aAb (me id : Int) (s : Sub) : ClieC → Int × MV × Bool
 | .n1 =>(1,.nil,true)
 | .a1 =>(1,.attempt ⟨o0,me,false⟩,false)
 | .n2 =>(2,.nil,true)
 | .n3 =>(3,.nil,true)
 | .n4 =>(4,.nil,true)
 | .n5 =>(5,.nil,true)
 | .n6 =>(6,.nil,true)
 | .a6 t =>(6,.insert (ask s.deadline id t),false)
 | .n7 =>(7,.nil,true)
 | .n8 =>(8,.nil,true)
 | .n9 =>(9,.nil,true)
 | .a9 t =>(9,.wake (atj me s.level t),false)
@[reducible] def asT (subs : List Sub) (me : Int) (k : ClieS) : ClientV MV :=
 ⟨subs,me,k.i,(aAb me k.id (abf subs k.i) k.c).1,(aAb me k.id (abf subs k.i) k.c).2.1,(aAb me k.id (abf subs k.i) k.c).2.2,k.id,k.acc⟩
def aF4 (subs:List Sub) (me:Int) (res:Option ((Bool×Unit)×(ClientV MV×EnvP×Unit))) (r:Bool×ClieS×EnvP):Prop:=res=some ((r.1,()),(asT subs me r.2.1,r.2.2,()))
def aqL (subs:List Sub) (me i id ln:Int):MV :=
 if ln=1 then .attempt ⟨o0,me,false⟩ else if ln=3 then .alloc ⟨o0⟩ else if ln=6 then .insert ⟨o0,(abf subs i).deadline,id,1,0,0,0,0⟩ else if ln=8 then .release ⟨o0⟩ else if ln=9 then .wake ⟨o0,me,(abf subs i).level,1,0,0⟩ else .nil
section
variable [Tb] {K:Nat} {e:EnvP} {w:Int} {subs:List Sub} {me i id ln:Int} {m:MV} {f acc:Bool}
theorem aip (hi:0≤i∧i<(subs.length:Int)) (h:1≤ln∧ln≤9):ado ⟨subs,me,i,ln,m,f,id,acc⟩=some ((aqL subs me i id ln,()),(⟨subs,me,i,ln,m,f,id,acc⟩,())):=by
 unfold ado
 simp only [hi,and_self,if_true,alb,aeU,ahu,afo,ac8,bnd]
 rw [aaw (aai (show _∧_ by omega)),if_pos (by simp only [List.length_cons,List.length_nil]; omega)]
 have hv:ln=1∨ln=2∨ln=3∨ln=4∨ln=5∨ln=6∨ln=7∨ln=8∨ln=9:=by omega
 rcases hv with rfl | rfl | rfl | rfl | rfl | rfl | rfl | rfl | rfl<;>rfl
theorem ayf (x:AttemptV):(SR1.spl (MV.attempt x)).isNone=false:=rfl
theorem aDO (x:AllocV):(SR1.spl (MV.alloc x)).isNone=false:=rfl
theorem aye (x:InsertV):(SR1.spl (MV.insert x)).isNone=false:=rfl
theorem aDN (x:ReleaseV):(SR1.spl (MV.release x)).isNone=false:=rfl
theorem ayb (x:WakeV):(SR1.spl (MV.wake x)).isNone=false:=rfl
theorem aF4.ite {c:Prop} [Decidable c] {a b:Option ((Bool×Unit)×(ClientV MV×EnvP×Unit))} {r s:Bool×ClieS×EnvP} (h1:c→aF4 subs me a r) (h2:¬ c→aF4 subs me b s):aF4 subs me (if c then a else b) (if c then r else s):=by
 by_cases h:c
 ·rw [if_pos h,if_pos h]; exact h1 h
 ·rw [if_neg h,if_neg h]; exact h2 h
theorem aCD (hK:EOk K e) (hk:K≤100000000) (k:ClieS) (hi0:0≤k.i):aF4 subs me (aap (asT subs me k) e) (anq subs me e k):=by
 have hl:e.evs.length≤999999999:=by have:=hK.ev; omega
 obtain ⟨i,id,acc,c⟩:=k
 have hi0:0≤i:=hi0
 unfold anq
 by_cases hov:(subs.length:Int)≤i
 ·rw [if_pos hov]
  simp only [aap,aau,hov,decide_true,bnd,if_true]
  rfl
 rw [if_neg hov]
 have hi:0≤i∧i<(subs.length:Int):=by omega
 have hm:∀ m v,aep { e with m:=m } v=some ((),({ e with m:=m,evs:=e.evs++[v] },())):=fun m v =>acj (e:={ e with m:=m }) hl
 cases c with
 | n1 =>
  obtain ⟨dn,x',h,ho,hd,hx⟩:=asd (e:=e) (w:=me) (b:=false)
  rw [Bool.or_false] at hd
  simp only [o0] at h hx
  simp only [adk,aap,aau,hov,decide_false,bnd,Bool.not_true,Bool.not_false,Bool.false_eq_true,if_true,if_false,Int.reduceEq,aip hi (show (1:Int)≤1∧(1:Int)≤9 by decide),aqL,ayf,adV,abu,h]
  rcases Bool.eq_false_or_eq_true (e.hit 1 0) with hh | hh
  ·rw [hh] at hd
   subst hd
   have ho:=ho rfl
   simp only [hh,if_true] at ho ⊢
   simp only [ho,hi,and_self,aaV,aam,bnd,Bool.not_true,Bool.not_false,Bool.false_eq_true,if_true,if_false,Int.reduceEq]
   rfl
  ·rw [hh] at hd
   subst hd
   have hx:=hx rfl
   simp only [hh,hx,bnd,Bool.not_true,Bool.not_false,Bool.false_eq_true,if_true,if_false,Int.reduceEq]
   rfl
 | a1 =>
  obtain ⟨dn,x',h,ho,hd,hx⟩:=asd (e:=e) (w:=me) (b:=false)
  rw [Bool.or_false] at hd
  simp only [o0] at h hx
  simp only [adk,aap,aau,hov,decide_false,bnd,Bool.not_true,Bool.not_false,Bool.false_eq_true,if_true,if_false,Int.reduceEq,ayf,adV,abu,h,o0]
  rcases Bool.eq_false_or_eq_true (e.hit 1 0) with hh | hh
  ·rw [hh] at hd
   subst hd
   have ho:=ho rfl
   simp only [hh,if_true] at ho ⊢
   simp only [ho,hi,and_self,aaV,aam,bnd,Bool.not_true,Bool.not_false,Bool.false_eq_true,if_true,if_false,Int.reduceEq]
   rfl
  ·rw [hh] at hd
   subst hd
   have hx:=hx rfl
   simp only [hh,hx,bnd,Bool.not_true,Bool.not_false,Bool.false_eq_true,if_true,if_false,Int.reduceEq]
   rfl
 | n2 =>
  simp only [adk,aap,aau,hov,decide_false,bnd,Bool.not_true,Bool.not_false,Bool.false_eq_true,if_true,if_false,Int.reduceEq,aip hi (show (1:Int)≤2∧(2:Int)≤9 by decide),aqL,ak3,aa7,hi,and_self,agn,abx,abJ,aam,hm]
  rw [acn]
  exact aF4.ite (fun _ =>rfl) fun _ =>rfl
 | n3 =>
  obtain ⟨x',h,ho⟩:=auJ (e:=e)
  simp only [adk,aap,aau,hov,decide_false,bnd,Bool.not_true,Bool.not_false,Bool.false_eq_true,if_true,if_false,Int.reduceEq,aip hi (show (1:Int)≤3∧(3:Int)≤9 by decide),aqL,aDO,adV,abu,h,aaV,abJ,aam,hi,and_self]
  by_cases ci:IsT e (wi (e.gt 0))
  ·rw [if_pos ci] at ho ⊢
   have hv:0≤wi (e.gt 0)∧wi (e.gt 0)<((aff e).recs.length:Int):=⟨ci.1,by have:=ci.2; have:=hK.ct; show _<(e.recs.length:Int); omega⟩
   simp only [ho,Int.reduceEq,if_false,hv,and_self,if_true]
   rfl
  ·rw [if_neg ci] at ho ⊢
   simp only [ho,if_true,acj (e:=aff e) hl,bnd]
   rfl
 | n4 =>
  simp only [adk,aap,aau,hov,decide_false,bnd,Bool.not_true,Bool.not_false,Bool.false_eq_true,if_true,if_false,Int.reduceEq,aip hi (show (1:Int)≤4∧(4:Int)≤9 by decide),aqL,ak3,aa7,hi,and_self,afM,abt,aam]
  rfl
 | n5 =>
  simp only [adk,aap,aau,hov,decide_false,bnd,Bool.not_true,Bool.not_false,Bool.false_eq_true,if_true,if_false,Int.reduceEq,aip hi (show (1:Int)≤5∧(5:Int)≤9 by decide),aqL,ak3,aa7,hi,and_self,ajw,arX,abt,aam]
  rfl
 | n6 =>
  have h:=arc (e:=e) (d:=(abf subs i).deadline) (t:=id) .l1
  have hn:=amm (e:=e) (d:=(abf subs i).deadline) (t:=id) .l1
  revert h hn
  simp only [adk,aap,aau,hov,decide_false,bnd,Bool.not_true,Bool.not_false,Bool.false_eq_true,if_true,if_false,Int.reduceEq,aip hi (show (1:Int)≤6∧(6:Int)≤9 by decide),aqL,aye,adV,abu,o0]
  rcases abq (abf subs i).deadline id e .l1 with ⟨r | ⟨c,y⟩,e'⟩<;>intro h hn
  ·simp only [aaW,o0] at h
   simp only [h,bnd,Bool.not_false,if_true]
   rfl
  ·simp only [aaW,o0] at h
   obtain ⟨x',h,ho⟩:=h
   have hl':e'.evs.length≤999999999:=by have h1:e'.evs.length≤e.evs.length+0:=hn.ev; have:=hK.ev; omega
   simp only [h,ho,aaV,aam,hi,and_self,acj hl',bnd,Bool.not_true,Bool.not_false,Bool.false_eq_true,if_true,if_false,Int.reduceEq,ne_eq]
   by_cases hc:c=0
   ·simp only [hc,not_true,if_true,if_false]; rfl
   ·simp only [hc,not_false_eq_true,if_true,if_false]; rfl
 | a6 t =>
  have h:=arc (e:=e) (d:=(abf subs i).deadline) (t:=id) t
  have hn:=amm (e:=e) (d:=(abf subs i).deadline) (t:=id) t
  revert h hn
  simp only [adk,aap,aau,hov,decide_false,bnd,Bool.not_true,Bool.not_false,Bool.false_eq_true,if_true,if_false,Int.reduceEq,aye,adV,abu]
  rcases abq (abf subs i).deadline id e t with ⟨r | ⟨c,y⟩,e'⟩<;>intro h hn
  ·simp only [aaW] at h
   simp only [h,bnd,Bool.not_false,if_true]
   rfl
  ·simp only [aaW] at h
   obtain ⟨x',h,ho⟩:=h
   have hl':e'.evs.length≤999999999:=by have h1:e'.evs.length≤e.evs.length+0:=hn.ev; have:=hK.ev; omega
   simp only [h,ho,aaV,aam,hi,and_self,acj hl',bnd,Bool.not_true,Bool.not_false,Bool.false_eq_true,if_true,if_false,Int.reduceEq,ne_eq]
   by_cases hc:c=0
   ·simp only [hc,not_true,if_true,if_false]; rfl
   ·simp only [hc,not_false_eq_true,if_true,if_false]; rfl
 | n7 =>
  simp only [adk,aap,aau,hov,decide_false,bnd,Bool.not_true,Bool.not_false,Bool.false_eq_true,if_true,if_false,Int.reduceEq,aip hi (show (1:Int)≤7∧(7:Int)≤9 by decide),aqL,ak3,aa7,hi,and_self,ae0,abt,aam]
  rfl
 | n8 =>
  obtain ⟨x',h,ho⟩:=awY (e:=e)
  simp only [adk,aap,aau,hov,decide_false,bnd,Bool.not_true,Bool.not_false,Bool.false_eq_true,if_true,if_false,Int.reduceEq,aip hi (show (1:Int)≤8∧(8:Int)≤9 by decide),aqL,aDN,adV,abu,h,aaV,ac3,aau,aam,hi,and_self]
  cases acc<;>rfl
 | n9 =>
  have h:=als (e:=e) (w:=me) (v:=(abf subs i).level) hl (.l1 0)
  revert h
  simp only [adk,aap,aau,hov,decide_false,bnd,Bool.not_true,Bool.not_false,Bool.false_eq_true,if_true,if_false,Int.reduceEq,aip hi (show (1:Int)≤9∧(9:Int)≤9 by decide),aqL,ayb,adV,abu,o0]
  rcases aev me (abf subs i).level e (.l1 0) with ⟨r | ⟨c,y⟩,e'⟩<;>intro h
  ·simp only [aaW,o0] at h
   simp only [h,bnd,Bool.not_false,if_true]
   rfl
  ·simp only [aaW,o0] at h
   obtain ⟨x',h,ho⟩:=h
   simp only [h,ho,aaV,ac3,aau,aam,hi,and_self,bnd,Bool.not_true,Bool.not_false,Bool.false_eq_true,if_true,if_false,Int.reduceEq]
   rfl
 | a9 t =>
  have h:=als (e:=e) (w:=me) (v:=(abf subs i).level) hl t
  revert h
  simp only [adk,aap,aau,hov,decide_false,bnd,Bool.not_true,Bool.not_false,Bool.false_eq_true,if_true,if_false,Int.reduceEq,ayb,adV,abu]
  rcases aev me (abf subs i).level e t with ⟨r | ⟨c,y⟩,e'⟩<;>intro h
  ·simp only [aaW] at h
   simp only [h,bnd,Bool.not_false,if_true]
   rfl
  ·simp only [aaW] at h
   obtain ⟨x',h,ho⟩:=h
   simp only [h,ho,aaV,ac3,aau,aam,hi,and_self,bnd,Bool.not_true,Bool.not_false,Bool.false_eq_true,if_true,if_false,Int.reduceEq]
   rfl
theorem anL (hK:EOk K e) (k:WorkS) (hc:k.c≠.top):Stp 2 e (acZ w e k).2:=by
 obtain ⟨cur,vi,lv,x,c⟩:=k
 cases c with
 | top =>exact absurd rfl hc
 | t1 t s =>
  have h:=aA1 (e:=e) (w:=w) (t:=t) s
  revert h
  simp only [acZ,acb]
  rcases abA w t e s with ⟨r | ⟨c,y⟩,e'⟩<;>intro h
  ·exact h.le (by decide)
  ·exact h.le (by decide)
 | t2 s =>
  have h:=aDt (w:=w) (fun t =>hK.st) s
  revert h
  simp only [acZ,acb]
  rcases ak0 w e s with ⟨r | ⟨c,y⟩,e'⟩<;>intro h
  ·exact h.le (by decide)
  ·exact h.le (by decide)
 | t3 s =>
  have h:=aCq (e:=e) (w:=w) s
  revert h
  simp only [acZ,acb]
  rcases abI w e s with ⟨r | ⟨c,y⟩,e'⟩<;>intro h
  ·exact h.le (by decide)
  ·exact h.le (by decide)
 | t4 s =>
  have h:=awp (e:=e) (w:=w) s
  revert h
  simp only [acZ,acb]
  rcases akP w e s with ⟨r | ⟨c,y⟩,e'⟩<;>intro h
  ·exact h.le (by decide)
  ·exact h.le (by decide)
 | t5 s =>
  have h:=av8 (e:=e) (q:=aax e.l vi lv) s
  revert h
  simp only [acZ,acb]
  rcases aiS (aax e.l vi lv) e s with ⟨r | ⟨c,y⟩,e'⟩<;>intro h
  ·exact h.le (by decide)
  ·simp only
   split
   ·exact Stp.le (Stp.em h) (by decide)
   ·split<;>exact Stp.le h (by decide)
 | t6 =>exact (amy (w:=w) (t:=x) hK.st).le (by decide)
 | t7 s =>
  have h:=aGt (w:=w) hK s
  revert h
  simp only [acZ,acb]
  rcases au2 w e s with ⟨r | ⟨c,y⟩,e'⟩<;>intro h
  ·exact h.le (by decide)
  ·exact h.le (by decide)
 | t8 s =>
  have h:=aBd (e:=e) (w:=w) s
  revert h
  simp only [acZ,acb]
  rcases agk w e s with ⟨r | ⟨c,y⟩,e'⟩<;>intro h
  ·exact h.le (by decide)
  ·exact h.le (by decide)
 | t9 s =>
  have h:=awh (e:=e) (a:=aaN e.l vi) (b:=lv) (q:=aax e.l vi lv) s
  revert h
  simp only [acZ,acb]
  rcases agm (aaN e.l vi) lv (aax e.l vi lv) e s with ⟨r | ⟨c,y⟩,e'⟩<;>intro h
  ·exact h.le (by decide)
  ·exact h.le (by decide)
theorem atg {cur vi lv x:Int}:acZ w e ⟨cur,vi,lv,x,acb w e ⟨cur,vi,lv,x,.top⟩⟩=acZ w e ⟨cur,vi,lv,x,.top⟩:=by
 unfold acb
 simp only
 by_cases ha:e.c.age=0
 ·simp only [acZ,acb,ha,if_true]
 ·simp only [acZ,acb,ha,if_false]
theorem aDm (hK:EOk K e) (k:WorkS):Stp 2 e (acZ w e k).2:=by
 obtain ⟨cur,vi,lv,x,c⟩:=k
 cases c with
 | top =>
  rw [← atg]
  exact anL hK _ (show acb w e ⟨cur,vi,lv,x,.top⟩≠.top from ao2)
 | _ =>exact anL hK _ (fun h =>by cases h)
theorem anK (hK:EOk K e) (k:WorkS) (hc:k.c≠.top) (hW:aib K (ab6 e) k) (hK1:1≤K):aib (K+1) (ab6 e) (acZ w e k).1:=by
 obtain ⟨cur,vi,lv,x,c⟩:=k
 have hr0:∀ t,aH3 (K+1) (aFP t):=fun t =>⟨by simp [aFP],by simp [aFP]⟩
 cases c with
 | top =>exact absurd rfl hc
 | t1 t s =>
  simp only [acZ,acb]
  split<;>trivial
 | t2 s =>
  simp only [acZ,acb]
  split
  ·trivial
  ·simp only
   split
   ·exact hr0 _
   ·exact (rfl:aDg.direct=false)
 | t3 s =>
  simp only [acZ,acb]
  split
  ·rename_i h; exact aCp hW h
  ·simp only
   split
   ·trivial
   ·split
    ·trivial
    ·unfold aib ap3
     simp only
     split<;>first | trivial | (rename_i h; split at h<;>cases h; trivial) | (rename_i h; split at h<;>cases h)
 | t4 s =>
  simp only [acZ,acb]
  split
  ·rename_i h; exact aBu hK.wk hW h
  ·simp only
   split<;>trivial
 | t5 s =>
  simp only [acZ,acb]
  split
  ·trivial
  ·split
   ·trivial
   ·split<;>trivial
 | t6 =>
  simp only [acZ,acb]
  split
  ·exact hr0 _
  ·trivial
 | t7 s =>
  simp only [acZ,acb]
  split
  ·rename_i h
   have h1:=aGs hW.1 h
   exact ⟨h1.1,by have:=hW.2; omega⟩
  ·trivial
 | t8 s =>
  simp only [acZ,acb]
  split<;>trivial
 | t9 s =>
  simp only [acZ,acb]
  split<;>trivial
theorem aDl (hK:EOk K e) (k:WorkS) (hW:aib K (ab6 e) k) (hK1:1≤K):aib (K+1) (ab6 e) (acZ w e k).1:=by
 obtain ⟨cur,vi,lv,x,c⟩:=k
 cases c with
 | top =>
  rw [← atg]
  refine anK hK _ (show acb w e ⟨cur,vi,lv,x,.top⟩≠.top from ao2) ?_ hK1
  unfold acb
  simp only
  split<;>trivial
 | _ =>exact anK hK _ (fun h =>by cases h) hW hK1
theorem aFF (hK:EOk K e) (k:ClieS):Stp 2 e (anq subs me e k).2.2:=by
 obtain ⟨i,id,acc,c⟩:=k
 unfold anq
 split
 ·exact Stp.refl.le (by decide)
 cases c with
 | n1 =>exact Stp.le avt (by decide)
 | a1 =>exact Stp.le avt (by decide)
 | n2 =>
  simp only [adk]
  split
  ·exact Stp.le (Stp.em Stp.lk) (by decide)
  ·exact Stp.le Stp.lk (by decide)
 | n3 =>
  simp only [adk]
  split
  ·exact Stp.le (Stp.pr aoZ fun K h =>Nat.zero_le _) (by decide)
  ·exact Stp.le (Stp.em aoZ) (by decide)
 | n4 =>exact Stp.le (Stp.pt (by decide)) (Nat.zero_le _)
 | n5 =>exact Stp.le (Stp.pt (by decide)) (Nat.zero_le _)
 | n6 =>
  have h:=amm (e:=e) (d:=(abf subs i).deadline) (t:=id) .l1
  revert h
  simp only [adk]
  rcases abq (abf subs i).deadline id e .l1 with ⟨r | ⟨c,y⟩,e'⟩<;>intro h
  ·exact Stp.le h (by decide)
  ·simp only
   split
   ·exact Stp.le (Stp.em h) (by decide)
   ·exact Stp.le h (by decide)
 | a6 t =>
  have h:=amm (e:=e) (d:=(abf subs i).deadline) (t:=id) t
  revert h
  simp only [adk]
  rcases abq (abf subs i).deadline id e t with ⟨r | ⟨c,y⟩,e'⟩<;>intro h
  ·exact Stp.le h (by decide)
  ·simp only
   split
   ·exact Stp.le (Stp.em h) (by decide)
   ·exact Stp.le h (by decide)
 | n7 =>exact Stp.le (Stp.pt (by decide)) (Nat.zero_le _)
 | n8 =>
  simp only [adk]
  split
  ·exact Stp.le avA (by decide)
  ·exact Stp.le (show Stp 0 e (aAa subs _ (aqa e)).2.2 from avA) (by decide)
 | n9 =>
  have h:=ao3 (e:=e) (w:=me) (v:=(abf subs i).level) (.l1 0)
  revert h
  simp only [adk]
  rcases aev me (abf subs i).level e (.l1 0) with ⟨r | ⟨c,y⟩,e'⟩<;>intro h<;>exact Stp.le h (by decide)
 | a9 t =>
  have h:=ao3 (e:=e) (w:=me) (v:=(abf subs i).level) t
  revert h
  simp only [adk]
  rcases aev me (abf subs i).level e t with ⟨r | ⟨c,y⟩,e'⟩<;>intro h<;>exact Stp.le h (by decide)
end
end
section
open Go
variable [Tb]
theorem ahH (b:List Int) (l:List (List Int)) (hl:l.length≤1000000):aaP (apY b l) fun o =>o.1.1=true→b.length≤400∧∀ x∈l,x.length≤400:=by
 unfold apY
 refine aaP.bind (P:=fun z =>(∀ o,z=.inr o→o.1.1=false)∧(∀ y,z=.inl y→∀ x∈l,x.length≤400)) (acx (fun x =>0≤x.1∧x.1≤(l.length:Int)∧∀ i:Nat,(i:Int)<x.1→∀ y,l[i]?=some y→y.length≤400) (fun x =>((l.length:Int)-x.1).toNat) (fun self x ⟨q0,q1,q2⟩ ih =>?_) _ _ ⟨Int.le_refl 0,by show (0:Int)≤(l.length:Int); omega,fun i hi =>by omega⟩ (by show ((l.length:Int)-0).toNat<_; omega)) fun z hz =>?_
 rotate_left
 ·have e2:wi (x.1+1)=x.1+1:=aaw (aai (by omega))
  rw [e2]
  refine aaP.ite (fun hlt =>.guard ⟨q0,hlt⟩ fun _ =>aaP.ite (fun _ =>.some_ ⟨fun o e =>(by cases e; rfl),fun y e =>(by cases e)⟩) fun h4 =>ih _ ⟨by show 0≤x.1+1; omega,by show x.1+1≤(l.length:Int); omega,fun i hi y hy =>?_⟩ (by show ((l.length:Int)-(x.1+1)).toNat<((l.length:Int)-x.1).toNat; omega)) fun hlt =>.some_ ⟨fun o e =>(by cases e),fun y e x' hx' =>?_⟩
  ·by_cases hi2:(i:Int)<x.1
   ·exact q2 i hi2 y hy
   ·have hi3:i=x.1.toNat:=by have:(i:Int)<x.1+1:=hi; omega
    have h5:=aeL (d:=([]:List Int)) (xs:=l) (i:=x.1) ⟨q0,hlt⟩
    rw [hi3,h5] at hy
    cases hy
    omega
  ·obtain ⟨i,hi,rfl⟩:=List.getElem_of_mem hx'
   exact q2 i (by omega) _ (List.getElem?_eq_getElem hi)
 ·rcases z with y | o
  ·refine .some_ fun e =>⟨?_,hz.2 y rfl⟩
   have:((b.length:Nat):Int)≤400:=of_decide_eq_true e
   omega
  ·exact .some_ fun e =>by rw [hz.1 o rfl] at e; cases e
structure DecOk (c:Cfg):Prop where
 w:1≤c.workers∧c.workers≤4
 l:1≤c.levels∧c.levels≤4
 k:1≤c.classes∧c.classes≤3∧c.classes≤c.levels
 t:1≤c.tasks∧c.tasks≤12
 q:1≤c.deque∧c.deque≤4
 h:1≤c.heap∧c.heap≤4
 b:1≤c.batch∧c.batch≤c.deque
 a:0≤c.age∧c.age≤5
 p:1≤c.patience∧c.patience≤8
 pn:1≤c.progs.length∧c.progs.length≤4
 pl:∀ x∈c.progs,x.length≤5
 ps:∀ x∈c.progs,∀ i∈x,(i.op=0∧1≤i.a∧i.a≤4∧i.b=0)∨(i.op=1∧0≤i.a∧i.a<(c.progs.length:Int)∧0≤i.b∧i.b<c.levels)∨(i.op=2∧0≤i.a∧i.a≤3∧i.b=0)
 sn:c.subs.length≤5
 ss:∀ s∈c.subs,(0≤s.prog∧s.prog<(c.progs.length:Int))∧(0≤s.level∧s.level<c.levels)∧0≤s.deadline∧s.deadline≤15
structure CodOk (N:Int) (r:CodV):Prop where
 by_:∀ x∈r.inn,0≤x∧x≤255
 ln:r.inn.length≤1000000
 at_:0≤r.at_∧r.at_≤N
theorem ack {N:Int} {r:CodV} {k:Int} (h:CodOk N r) (hN:N≤1000000) (h1:1≤k) (h2:k≤1000):aaP (abF r k) fun o =>(0≤o.1.1∧o.1.1<k)∧CodOk (N+1) o.2.1:=by
 have ha:=h.at_
 have e1:wi (r.at_+1)=r.at_+1:=aaw (aai (by omega))
 unfold abF
 rw [e1]
 refine aaP.ite (fun hlt =>.guard ⟨ha.1,hlt⟩ fun _ =>.guard (by omega) fun _ =>.some_ ⟨?_,h.by_,h.ln,by show 0≤r.at_+1; omega,by show r.at_+1≤N+1; omega⟩) fun _ =>.some_ ⟨⟨Int.le_refl 0,by show (0:Int)<k; omega⟩,h.by_,h.ln,by show 0≤r.at_+1; omega,by show r.at_+1≤N+1; omega⟩
 have hb:=h.by_ _ (auF (d:=dfR 17) (xs:=r.inn) (i:=r.at_) ⟨ha.1,hlt⟩)
 have e2:wi (ajd r.inn r.at_)=ajd r.inn r.at_:=aaw (aai (x:=ajd r.inn r.at_) ⟨by have:=hb.1; exact Int.le_trans (by decide) this,by have:=hb.2; exact Int.le_trans this (by decide)⟩)
 rw [e2]
 exact arw h1 hb.1
theorem CodOk.up {N M:Int} {r:CodV} (h:CodOk N r) (hl:N≤M):CodOk M r:=⟨h.by_,h.ln,h.at_.1,by have:=h.at_; omega⟩
def avW (n lv:Int) (i:Ins):Prop:=(i.op=0∧1≤i.a∧i.a≤4∧i.b=0)∨(i.op=1∧0≤i.a∧i.a<n∧0≤i.b∧i.b<lv)∨(i.op=2∧0≤i.a∧i.a≤3∧i.b=0)
def aJx (n lv:Int) (s:Sub):Prop:=(0≤s.prog∧s.prog<n)∧(0≤s.level∧s.level<lv)∧0≤s.deadline∧s.deadline≤15
structure NumOk (c:Cfg):Prop where
 w:1≤c.workers∧c.workers≤4
 l:1≤c.levels∧c.levels≤4
 k:1≤c.classes∧c.classes≤3∧c.classes≤c.levels
 t:1≤c.tasks∧c.tasks≤12
 q:1≤c.deque∧c.deque≤4
 h:1≤c.heap∧c.heap≤4
 b:1≤c.batch∧c.batch≤c.deque
 a:0≤c.age∧c.age≤5
 p:1≤c.patience∧c.patience≤8
theorem w1p {x:Int} (h:0≤x) (h2:x≤1000000):wi (1+x)=1+x:=aaw (aai (by omega))
theorem avF {b:List Int} (hb:∀ x∈b,0≤x∧x≤255) (hl:b.length≤1000000):aaP (aoG b) fun o =>DecOk o.1.1:=by
 unfold aoG
 refine (ack (N:=0) (k:=4) ⟨hb,hl,Int.le_refl 0,Int.le_refl 0⟩ (by decide) (by decide) (by decide)).bind fun r1 h1 =>?_
 refine (ack (k:=4) h1.2 (by decide) (by decide) (by decide)).bind fun r2 h2 =>?_
 have w1:=w1p h1.1.1 (by omega)
 have w2:=w1p h2.1.1 (by omega)
 rw [w1,w2]
 refine (ack h2.2 (by decide) (by split<;>omega) (by split<;>omega)).bind fun r3 h3 =>?_
 refine (ack (k:=12) h3.2 (by decide) (by decide) (by decide)).bind fun r4 h4 =>?_
 refine (ack (k:=4) h4.2 (by decide) (by decide) (by decide)).bind fun r5 h5 =>?_
 refine (ack (k:=4) h5.2 (by decide) (by decide) (by decide)).bind fun r6 h6 =>?_
 have h3':r3.1.1<3∧r3.1.1<1+r2.1.1:=by
  have:=h3.1.2
  split at this<;>omega
 have w3:=w1p h3.1.1 (by omega)
 have w4:=w1p h4.1.1 (by omega)
 have w5:=w1p h5.1.1 (by omega)
 have w6:=w1p h6.1.1 (by omega)
 rw [w3,w4,w5,w6]
 refine (ack h6.2 (by decide) (by omega) (by omega)).bind fun r7 h7 =>?_
 refine (ack (k:=6) h7.2 (by decide) (by decide) (by decide)).bind fun r8 h8 =>?_
 refine (ack (k:=8) h8.2 (by decide) (by decide) (by decide)).bind fun r9 h9 =>?_
 refine (ack (k:=4) h9.2 (by decide) (by decide) (by decide)).bind fun r10 h10 =>?_
 have w7:=w1p h7.1.1 (by omega)
 have w9:=w1p h9.1.1 (by omega)
 have w10:=w1p h10.1.1 (by omega)
 rw [w7,w9,w10]
 refine aaP.bind (P:=fun z =>CodOk 1000 z.2.1∧NumOk z.2.2.1∧z.2.2.1.levels=1+r2.1.1∧(z.2.2.1.progs.length:Int)=1+r10.1.1∧(∀ p∈z.2.2.1.progs,p.length≤5∧∀ i∈p,avW (1+r10.1.1) (1+r2.1.1) i)∧z.2.2.1.subs=[])
  (acx (fun x =>0≤x.1∧x.1≤1+r10.1.1∧CodOk (10+30*x.1) x.2.1∧NumOk x.2.2.1∧x.2.2.1.levels=1+r2.1.1∧(x.2.2.1.progs.length:Int)=x.1∧(∀ p∈x.2.2.1.progs,p.length≤5∧∀ i∈p,avW (1+r10.1.1) (1+r2.1.1) i)∧x.2.2.1.subs=[])
   (fun x =>(1+r10.1.1-x.1).toNat) (fun self x ⟨q0,q1,q2,q3,q4,q5,q6,q7⟩ ih =>?step) _ _ ⟨Int.le_refl 0,by show (0:Int)≤1+r10.1.1; omega,h10.2,?num,rfl,rfl,fun p hp =>(by cases hp),rfl⟩ (by show (1+r10.1.1-0).toNat<_; omega)) fun z hz =>?cont
 case step =>
  have f1:wi (x.1+1)=x.1+1:=aaw (aai (by omega))
  refine aaP.ite (fun hlt =>?_) fun hlt =>.some_ ⟨q2.up (by omega),q3,q4,by show (x.2.2.1.progs.length:Int)=_; omega,q6,q7⟩
  have hlen:(x.2.2.1.progs.length:Int)<10:=by omega
  rw [f1]
  refine (ack (k:=6) q2 (by omega) (by decide) (by decide)).bind fun r14 h14 =>?_
  refine aaP.bind (P:=fun z =>z.1.length≤5∧(∀ i∈z.1,avW (1+r10.1.1) (1+r2.1.1) i)∧CodOk (10+30*x.1+26) z.2.2.1)
   (acx (fun y =>0≤y.2.1∧(y.1.length:Int)+y.2.1=r14.1.1∧CodOk (10+30*x.1+1+5*(r14.1.1-y.2.1)) y.2.2.1∧∀ i∈y.1,avW (1+r10.1.1) (1+r2.1.1) i)
    (fun y =>y.2.1.toNat) (fun self y ⟨p0,p1,p2,p3⟩ ih =>?_) _ _ ⟨h14.1.1,by show ((0:Nat):Int)+r14.1.1=_; omega,h14.2.up (by show 10+30*x.1+1≤10+30*x.1+1+5*(r14.1.1-r14.1.1); omega),fun i hi =>(by cases hi)⟩ (by show r14.1.1.toNat<_; omega)) fun z hz =>?_
  ·refine .guard (by show (((x.2.2.1.progs.length+1:Nat)):Int)<_; omega) fun _ =>ih _ ⟨by show 0≤x.1+1; omega,by show x.1+1≤_; omega,hz.2.2.up (by show 10+30*x.1+26≤10+30*(x.1+1); omega),⟨q3.w,q3.l,q3.k,q3.t,q3.q,q3.h,q3.b,q3.a,q3.p⟩,q4,?_,?_,q7⟩ ?_
   ·show (((x.2.2.1.progs++[z.1]).length:Nat):Int)=x.1+1
    rw [List.length_append,List.length_singleton]; omega
   ·intro p hp
    rcases List.mem_append.1 hp with hp | hp
    ·exact q6 p hp
    ·rw [List.mem_singleton] at hp; subst hp; exact ⟨hz.1,hz.2.1⟩
   ·show (1+r10.1.1-(x.1+1)).toNat<(1+r10.1.1-x.1).toNat
    omega
  ·have f2:wi (y.2.1-1)=y.2.1-1:=aaw (aai (by omega))
   have hyl:y.1.length≤5:=by omega
   refine aaP.ite (fun hlt2 =>?_) fun hlt2 =>.some_ ⟨hyl,p3,p2.up (by omega)⟩
   rw [f2,q4]
   have nx:∀ (u:Ins) (r:CodV),avW (1+r10.1.1) (1+r2.1.1) u→CodOk (10+30*x.1+1+5*(r14.1.1-(y.2.1-1))) r→aaP (if (((y.1.length+([u]:List Ins).length:Nat)):Int)<1000000000000 then self (y.1++[u],y.2.1-1,r,()) else none) fun z =>z.1.length≤5∧(∀ i∈z.1,avW (1+r10.1.1) (1+r2.1.1) i)∧CodOk (10+30*x.1+26) z.2.2.1:=fun u r hu hr =>
    .guard (by show (((y.1.length+1:Nat)):Int)<_; omega) fun _ =>ih _ ⟨by show 0≤y.2.1-1; omega,by
     show (((y.1++[u]).length:Nat):Int)+(y.2.1-1)=_
     rw [List.length_append,List.length_singleton]; omega,hr,fun i hi =>by
     rcases List.mem_append.1 hi with hi | hi
     ·exact p3 i hi
     ·rw [List.mem_singleton] at hi; subst hi; exact hu⟩ (by show (y.2.1-1).toNat<y.2.1.toNat; omega)
   refine (ack (k:=3) p2 (by omega) (by decide) (by decide)).bind fun r18 h18 =>?_
   refine aaP.ite (fun e0 =>?_) fun e0 =>aaP.ite (fun e1 =>?_) fun e1 =>?_
   ·refine (ack (k:=4) h18.2 (by omega) (by decide) (by decide)).bind fun r19 h19 =>?_
    rw [w1p h19.1.1 (by omega)]
    exact nx _ _ (.inl ⟨e0,by show 1≤1+r19.1.1; omega,by show 1+r19.1.1≤4; omega,rfl⟩) (h19.2.up (by omega))
   ·refine (ack (k:=1+r10.1.1) h18.2 (by omega) (by omega) (by omega)).bind fun r20 h20 =>?_
    refine (ack (k:=1+r2.1.1) h20.2 (by omega) (by omega) (by omega)).bind fun r21 h21 =>?_
    exact nx _ _ (.inr (.inl ⟨e1,h20.1.1,h20.1.2,h21.1.1,h21.1.2⟩)) (h21.2.up (by omega))
   ·refine (ack (k:=4) h18.2 (by omega) (by decide) (by decide)).bind fun r22 h22 =>?_
    exact nx _ _ (.inr (.inr ⟨by show r18.1.1=2; omega,h22.1.1,by show r22.1.1≤3; omega,rfl⟩)) (h22.2.up (by omega))
 case num =>
  refine ⟨?_,?_,?_,?_,?_,?_,?_,?_,?_⟩
  ·exact ⟨by show 1≤1+r1.1.1; omega,by show 1+r1.1.1≤4; omega⟩
  ·exact ⟨by show 1≤1+r2.1.1; omega,by show 1+r2.1.1≤4; omega⟩
  ·exact ⟨by show 1≤1+r3.1.1; omega,by show 1+r3.1.1≤3; omega,by show 1+r3.1.1≤1+r2.1.1; omega⟩
  ·exact ⟨by show 1≤1+r4.1.1; omega,by show 1+r4.1.1≤12; omega⟩
  ·exact ⟨by show 1≤1+r5.1.1; omega,by show 1+r5.1.1≤4; omega⟩
  ·exact ⟨by show 1≤1+r6.1.1; omega,by show 1+r6.1.1≤4; omega⟩
  ·exact ⟨by show 1≤1+r7.1.1; omega,by show 1+r7.1.1≤1+r5.1.1; omega⟩
  ·exact ⟨h8.1.1,by show r8.1.1≤5; omega⟩
  ·exact ⟨by show 1≤1+r9.1.1; omega,by show 1+r9.1.1≤8; omega⟩
 case cont =>
  obtain ⟨g1,g2,g3,g4,g5,g6⟩:=hz
  refine (ack (k:=6) g1 (by decide) (by decide) (by decide)).bind fun r23 h23 =>?_
  refine aaP.bind (P:=fun y =>DecOk y.2.2.1)
   (acx (fun y =>0≤y.1∧(y.2.2.1.subs.length:Int)+y.1=r23.1.1∧CodOk (1001+5*(r23.1.1-y.1)) y.2.1∧NumOk y.2.2.1∧y.2.2.1.levels=1+r2.1.1∧(y.2.2.1.progs.length:Int)=1+r10.1.1∧(∀ p∈y.2.2.1.progs,p.length≤5∧∀ i∈p,avW (1+r10.1.1) (1+r2.1.1) i)∧∀ s∈y.2.2.1.subs,aJx (1+r10.1.1) (1+r2.1.1) s)
    (fun y =>y.1.toNat) (fun self y ⟨p0,p1,p2,p3,p4,p5,p6,p7⟩ ih =>?_) _ _ ⟨h23.1.1,by show ((z.2.2.1.subs.length:Nat):Int)+r23.1.1=r23.1.1; rw [g6]; show ((0:Nat):Int)+r23.1.1=r23.1.1; omega,h23.2.up (by show (1001:Int)≤1001+5*(r23.1.1-r23.1.1); omega),g2,g3,g4,g5,fun s hs =>by
     have hs2:s∈z.2.2.1.subs:=hs
     rw [g6] at hs2; cases hs2⟩ (by show r23.1.1.toNat<_; omega)) fun y hy =>.some_ hy
  have f2:wi (y.1-1)=y.1-1:=aaw (aai (by omega))
  have hyl:y.2.2.1.subs.length≤5:=by omega
  refine aaP.ite (fun hlt =>?_) fun hlt =>.some_ ⟨p3.w,p3.l,p3.k,p3.t,p3.q,p3.h,p3.b,p3.a,p3.p,by show 1≤y.2.2.1.progs.length∧y.2.2.1.progs.length≤4; omega,fun x hx =>(p6 x hx).1,fun x hx i hi =>by
   have:=(p6 x hx).2 i hi
   rw [p5,p4]; exact this,hyl,fun s hs =>by
   have:=p7 s hs
   rw [p5,p4]; exact this⟩
  rw [f2,p4]
  refine (ack (k:=1+r10.1.1) p2 (by omega) (by omega) (by omega)).bind fun r27 h27 =>?_
  refine (ack (k:=1+r2.1.1) h27.2 (by omega) (by omega) (by omega)).bind fun r28 h28 =>?_
  refine (ack (k:=16) h28.2 (by omega) (by omega) (by omega)).bind fun r29 h29 =>?_
  refine .guard (by show (((y.2.2.1.subs.length+1:Nat)):Int)<_; omega) fun _ =>ih _ ⟨by show 0≤y.1-1; omega,?_,h29.2.up (by show 1001+5*(r23.1.1-y.1)+1+1+1≤1001+5*(r23.1.1-(y.1-1)); omega),⟨p3.w,p3.l,p3.k,p3.t,p3.q,p3.h,p3.b,p3.a,p3.p⟩,p4,p5,p6,?_⟩ (by show (y.1-1).toNat<y.1.toNat; omega)
  ·show (((y.2.2.1.subs++[_]).length:Nat):Int)+(y.1-1)=_
   rw [List.length_append,List.length_singleton]; omega
  ·intro s hs
   rcases List.mem_append.1 hs with hs | hs
   ·exact p7 s hs
   ·rw [List.mem_singleton] at hs; subst hs
    exact ⟨h27.1,h28.1,h29.1.1,by show r29.1.1≤15; omega⟩
end
section
open Go Go.RowKit
set_option maxRecDepth 100000
variable [Tb]
theorem adi {α β:Type} (a:α) (f:α→Option β):(some a).bind f=f a:=rfl
structure LenOk (c:Cfg):Prop where
 ps:c.progs.length≤1000000
 pl:∀ p∈c.progs,p.length≤1000000
 ss:c.subs.length≤1000000
theorem atM {lv np:Int}:∀ {ps:List (List Ins)},abw lv np ps=0→∀ p∈ps,p.length≤32
 | [],_,p,h =>by cases h
 | q::ps,h,p,hm =>by
  unfold abw at h
  split at h
  ·omega
  ·split at h
   ·rcases List.mem_cons.1 hm with e | e
    ·subst e; omega
    ·exact atM h p e
   ·omega
theorem alt {c:Cfg} (h:ae5 c=0):akR c=true∧c.progs.length≤32∧(∀ p∈c.progs,p.length≤32)∧c.subs.length≤64:=by
 unfold ae5 at h
 split at h
 ·omega
 ·rename_i hn
  split at h
  ·omega
  ·rename_i hp
   have hp0:adX c=0:=by omega
   unfold adX at hp0
   split at hp0
   ·omega
   ·rename_i hl
    simp only [inB,Bool.not_eq_true',Bool.and_eq_false_iff,decide_eq_false_iff_not,not_or,Classical.not_not,Bool.not_eq_false,Bool.and_eq_true,decide_eq_true_eq] at hl
    refine ⟨by simpa using hn,by omega,atM hp0,?_⟩
    unfold ahr at h
    split at h
    ·omega
    ·omega
theorem LenOk.of {c:Cfg} (h:ae5 c=0):LenOk c:=by
 obtain ⟨_,h1,h2,h3⟩:=alt h
 exact ⟨by omega,fun p hp =>by have:=h2 p hp; omega,by omega⟩
abbrev ClS:=Int×Int×Int×Int×Int×Int×Int×Int×Int×List (List Ins)×List Sub×Unit
def clS (c:Cfg):ClS:=(c.workers,c.levels,c.classes,c.tasks,c.deque,c.heap,c.batch,c.age,c.patience,c.progs,c.subs,())
theorem ayj {α:Type} {xs:List α} {i:Nat} {x:α} (h:xs[i]?=some x):xs.set i x=xs:=by
 obtain ⟨hlt,rfl⟩:=List.getElem?_eq_some_iff.1 h
 simp
theorem axb {c:Cfg} (h:LenOk c):afp c=some ((c,()),()):=by
 have hg:aaP (afp c) fun o =>o.1.1=c:=by
  unfold afp
  have e0:ah6 c.progs=some ((c.progs,()),()):=by unfold ah6; rw [if_pos h.ps]
  rw [e0,adi]
  refine aaP.bind (P:=fun z =>z.2.1=clS c) (acx (fun x =>x.2.1=clS c∧0≤x.1∧x.1≤(c.progs.length:Int)) (fun x =>((c.progs.length:Int)-x.1).toNat) (fun self x ⟨q0,q1,q2⟩ ih =>?_) _ _ ⟨rfl,Int.le_refl 0,by show (0:Int)≤_; omega⟩ (by show ((c.progs.length:Int)-0).toNat<_; have:=h.ps; omega)) fun z hz =>?_
  rotate_left
  ·obtain ⟨i,s,u⟩:=x
   simp only at q0 q1 q2
   subst q0
   refine aaP.ite (fun hlt =>?_) fun _ =>.some_ rfl
   have hin:0≤i∧i<((c.progs.length:Nat):Int):=⟨q1,hlt⟩
   refine aaP.guard (show 0≤i∧i<(((clS c).2.2.2.2.2.2.2.2.2.1.length:Nat):Int) from hin) fun _ =>?_
   have hm:=h.pl _ (auF (d:=(dfR 18:List Ins)) hin)
   have e1:ako (aAr (clS c).2.2.2.2.2.2.2.2.2.1 i)=some ((aAr c.progs i,()),()):=by
    unfold ako; exact if_pos hm
   rw [e1,adi]
   refine aaP.guard (show 0≤i∧i<(((clS c).2.2.2.2.2.2.2.2.2.1.length:Nat):Int) from hin) fun _ =>?_
   have e2:wi (i+1)=i+1:=aaw (aai (by have:=h.ps; omega))
   have e3:c.progs.set i.toNat (aAr c.progs i)=c.progs:=ayj (aeL hin)
   rw [e2]
   refine ih _ ⟨?_,by show 0≤i+1; omega,by show i+1≤_; omega⟩ (by show ((c.progs.length:Int)-(i+1)).toNat<((c.progs.length:Int)-i).toNat; omega)
   show (c.workers,c.levels,c.classes,c.tasks,c.deque,c.heap,c.batch,c.age,c.patience,c.progs.set i.toNat (aAr c.progs i),c.subs,())=clS c
   rw [e3]; rfl
  ·rw [hz]
   have e4:ah5 (clS c).2.2.2.2.2.2.2.2.2.2.1=some ((c.subs,()),()):=by unfold ah5; exact if_pos h.ss
   rw [e4,adi]
   exact .some_ rfl
 obtain ⟨o,e,ho⟩:=hg
 rw [e]
 obtain ⟨⟨o1,⟨⟩⟩,⟨⟩⟩:=o
 simp only at ho
 rw [ho]
def aaE (c:Cfg):LayV:={ workers:=c.workers,levels:=c.levels,classes:=c.classes,tasks:=c.tasks,deque:=c.deque,heap:=c.heap,sleepers:=4+c.heap,epochs:=4+c.heap+c.classes,bitmaps:=4+c.heap+c.classes+c.workers,queues:=4+c.heap+c.classes+c.workers+c.workers,table:=4+c.heap+c.classes+c.workers+c.workers+c.workers*c.levels*(2+c.deque) }
def aa9 (c:Cfg):Int:=(aaE c).table+5*c.tasks
theorem azd {a b A B:Int} (ha:0≤a) (hA:a≤A) (hb:0≤b) (hB:b≤B):0≤a*b∧a*b≤A*B :=
 ⟨Int.mul_nonneg ha hb,Int.le_trans (Int.mul_le_mul_of_nonneg_right hA hb) (Int.mul_le_mul_of_nonneg_left hB (Int.le_trans ha hA))⟩
theorem ary {c:Cfg} (h:akR c=true):(0≤c.workers*c.levels∧c.workers*c.levels≤1024)∧(0≤c.workers*c.levels*(2+c.deque)∧c.workers*c.levels*(2+c.deque)≤67584):=by
 have hs:=ain h
 have h1:=azd (a:=c.workers) (b:=c.levels) (A:=16) (B:=64) (by omega) (by omega) (by omega) (by omega)
 have h2:=azd (a:=c.workers*c.levels) (b:=2+c.deque) (A:=1024) (B:=66) h1.1 (by omega) (by omega) (by omega)
 omega
theorem azk {c:Cfg} (h:ae5 c=0):ami c=some ((aaE c,0,()),()):=by
 have hn:=(alt h).1
 have hs:=ain hn
 have ht:=ary hn
 unfold ami aiJ
 rw [adi]
 have e0:¬ ae5 c≠0:=by omega
 simp only [if_neg e0]
 have e1:wi (4+c.heap)=4+c.heap:=aaw (aai (by omega))
 have e2:wi (4+c.heap+c.classes)=4+c.heap+c.classes:=aaw (aai (by omega))
 have e3:wi (4+c.heap+c.classes+c.workers)=4+c.heap+c.classes+c.workers:=aaw (aai (by omega))
 have e4:wi (4+c.heap+c.classes+c.workers+c.workers)=4+c.heap+c.classes+c.workers+c.workers:=aaw (aai (by omega))
 have e5:wi (c.workers*c.levels)=c.workers*c.levels:=aaw (aai (by omega))
 have e6:wi (2+c.deque)=2+c.deque:=aaw (aai (by omega))
 have e7:wi (c.workers*c.levels*(2+c.deque))=c.workers*c.levels*(2+c.deque):=aaw (aai (by omega))
 have e8:wi (4+c.heap+c.classes+c.workers+c.workers+c.workers*c.levels*(2+c.deque))=4+c.heap+c.classes+c.workers+c.workers+c.workers*c.levels*(2+c.deque):=aaw (aai (by omega))
 simp only [e1,e2,e3,e4,e5,e6,e7,e8]
 rfl
def aAK:RecP:=⟨0,-1,0,0,-1,[],false⟩
def arh (c:Cfg):EnvP:=⟨c,aaE c,⟨List.replicate (aa9 c).toNat 0,⟨0,0,0,0⟩,0⟩,⟨0,0⟩,List.replicate c.tasks.toNat aAK,[]⟩
theorem awL {c:Cfg} (h:ae5 c=0):aeh c=some ((arh c,0,()),()):=by
 have hn:=(alt h).1
 have hs:=ain hn
 have ht:=ary hn
 have hg:aaP (aeh c) fun o =>o.1.1=arh c∧o.1.2.1=0:=by
  unfold aeh
  rw [azk h,adi]
  refine aaP.ite (fun e =>absurd rfl e) fun _ =>?_
  have c1:wi (5*c.tasks)=5*c.tasks:=aaw (aai (by omega))
  have c2:wi ((aaE c).table+5*c.tasks)=aa9 c:=aaw (aai (by unfold aaE; simp only; omega))
  have e1:awD (aaE c)=some ((aa9 c,()),()):=by
   unfold awD
   have:wi (5*(aaE c).tasks)=5*c.tasks:=c1
   rw [this,c2]
  rw [e1,adi]
  have hc:0≤aa9 c∧aa9 c≤131072:=by unfold aa9 aaE; simp only; omega
  have e2:aio (aa9 c)=some ((⟨⟨0,0,0,0,0,0,0,0,0,[],[]⟩,⟨0,0,0,0,0,0,0,0,0,0,0⟩,⟨List.replicate (aa9 c).toNat 0,⟨0,0,0,0⟩,0⟩,⟨0,0⟩,[],[]⟩,()),()):=by
   unfold aio apN asS
   have i1:(if aa9 c<0 then (0:Int) else aa9 c)=aa9 c:=if_neg (by omega)
   have i2:(if 131072<aa9 c then (131072:Int) else aa9 c)=aa9 c:=if_neg (by omega)
   have i3:0≤aa9 c∧aa9 c≤1099511627776:=by omega
   simp only [i1,i2,if_true,if_pos i3,adi]
  rw [e2,adi,axb (.of h),adi]
  simp only [if_true]
  refine aaP.bind (P:=fun z =>z.2.1=arh c) (acx (fun x =>0≤x.1∧x.1≤c.tasks∧x.2.1={ arh c with recs:=List.replicate x.1.toNat aAK }) (fun x =>(c.tasks-x.1).toNat) (fun self x ⟨q0,q1,q2⟩ ih =>?_) _ _ ⟨Int.le_refl 0,by show (0:Int)≤_; omega,rfl⟩ (by show (c.tasks-0).toNat<_; omega)) fun z hz =>.some_ ⟨hz,rfl⟩
  obtain ⟨i,e,u⟩:=x
  simp only at q0 q1 q2
  subst q2
  refine aaP.ite (fun hlt =>?_) fun hge =>.some_ ?_
  ·have hl:(List.replicate i.toNat aAK).length=i.toNat:=List.length_replicate
   refine aaP.guard ?_ fun _ =>?_
   ·show (((List.replicate i.toNat aAK).length+1:Nat):Int)<100000000000
    rw [hl]
    have hlt':i<c.tasks:=hlt
    omega
   ·have hlt':i<c.tasks:=hlt
    have e2:wi (i+1)=i+1:=aaw (aai (by omega))
    rw [e2]
    refine ih _ ⟨by show 0≤i+1; omega,by show i+1≤_; omega,?_⟩ (by show (c.tasks-(i+1)).toNat<(c.tasks-i).toNat; omega)
    show ({ arh c with recs:=List.replicate i.toNat aAK++[aAK] }:EnvP)={ arh c with recs:=List.replicate (i+1).toNat aAK }
    have e3:(i+1).toNat=i.toNat+1:=by omega
    rw [e3,List.replicate_succ']
  ·show ({ arh c with recs:=List.replicate i.toNat aAK }:EnvP)=arh c
   have:i=c.tasks:=by have hge':¬ i<c.tasks:=hge; omega
   rw [this]; rfl
 obtain ⟨o,e,ho1,ho2⟩:=hg
 rw [e]
 obtain ⟨⟨o1,o2,⟨⟩⟩,⟨⟩⟩:=o
 simp only at ho1 ho2
 rw [ho1,ho2]
end
section
open Go
variable [Tb]
theorem aAW {c:Cfg} (h:DecOk c) {t hp':Int} (ht:1≤t∧t≤12) (hh:1≤hp'∧hp'≤8):ae5 { c with tasks:=t,heap:=hp' }=0:=by
 have hp:∀ ps:List (List Ins),(∀ x∈ps,x∈c.progs)→abw c.levels c.progs.length ps=0:=fun ps =>by
  induction ps with
  | nil =>intro _; rfl
  | cons p ps ih =>
   intro hm
   have h1:=h.pl p (hm p (List.mem_cons_self ..))
   unfold abw
   rw [if_neg (by omega),if_pos]
   ·exact ih fun x hx =>hm x (List.mem_cons_of_mem _ hx)
   ·refine List.all_eq_true.2 fun i hi =>?_
    have h2:=h.ps p (hm p (List.mem_cons_self ..)) i hi
    unfold aqO
    rcases h2 with ⟨a,b,d,e⟩ | ⟨a,b,d,e,f⟩ | ⟨a,b,d,e⟩
    ·rw [if_pos a]; simp only [inB,e,Bool.and_eq_true,decide_eq_true_eq,beq_self_eq_true,and_true]; omega
    ·rw [if_neg (by omega),if_pos a]; simp only [inB,Bool.and_eq_true,decide_eq_true_eq]; omega
    ·rw [if_neg (by omega),if_neg (by omega),if_pos a]; simp only [inB,e,Bool.and_eq_true,decide_eq_true_eq,beq_self_eq_true,and_true]; omega
 have hs:∀ ss:List Sub,(∀ x∈ss,x∈c.subs)→adS c.levels c.progs.length ss=0:=fun ss =>by
  induction ss with
  | nil =>intro _; rfl
  | cons s ss ih =>
   intro hm
   have h1:=h.ss s (hm s (List.mem_cons_self ..))
   have e:apj c.levels c.progs.length s=0:=by
    unfold apj
    have e1:inB s.prog 0 ((c.progs.length:Int)-1)=true:=by simp only [inB,Bool.and_eq_true,decide_eq_true_eq]; omega
    have e2:inB s.level 0 (c.levels-1)=true:=by simp only [inB,Bool.and_eq_true,decide_eq_true_eq]; omega
    have e3:inB s.deadline 0 16777215=true:=by simp only [inB,Bool.and_eq_true,decide_eq_true_eq]; omega
    rw [e1,e2,e3]; rfl
   unfold adS
   rw [if_pos e]
   exact ih fun x hx =>hm x (List.mem_cons_of_mem _ hx)
 have hn:akR { c with tasks:=t,heap:=hp' }=true:=by
  have:=h.w; have:=h.l; have:=h.k; have:=h.t; have:=h.q; have:=h.h; have:=h.b; have:=h.a; have:=h.p
  simp only [akR,inB,Bool.and_eq_true,decide_eq_true_eq]
  have e:(if c.levels<8 then c.levels else 8)=c.levels:=if_pos (by omega)
  rw [e]
  omega
 have hpa:adX { c with tasks:=t,heap:=hp' }=0:=by
  have:=h.pn
  unfold adX
  have e:inB (c.progs.length:Int) 1 32=true:=by simp only [inB,Bool.and_eq_true,decide_eq_true_eq]; omega
  rw [e]
  exact hp c.progs fun _ hx =>hx
 have hsa:ahr { c with tasks:=t,heap:=hp' }=0:=by
  have:=h.sn
  unfold ahr
  rw [if_neg (show ¬ 64<c.subs.length by omega)]
  exact hs c.subs fun _ hx =>hx
 unfold ae5
 rw [hn,hpa]
 exact hsa
theorem afU {c:Cfg} (h:DecOk c):ae5 c=0:=by
 have:=h.h
 exact aAW h (t:=c.tasks) (hp':=c.heap) h.t (by omega)
theorem avI {b:List Int} (hb:∀ x∈b,0≤x∧x≤255) (hl:b.length≤1000000):aaP (agc b) fun o =>DecOk o.1.1:=by
 have:=avF hb hl
 unfold agc
 refine this.bind fun o ho =>.some_ ?_
 exact ho
end
section
open Go Go.RowKit
set_option maxRecDepth 100000
variable [Tb]
theorem ams (m:MemV):aaU m=some ((m.count,()),(m,())):=id rfl
theorem aER (m:MemV):adN m=some ((m.last,()),(m,())):=id rfl
theorem aCF (m:MemV) (h:m.cells.length≤1000000):aeg m=some ((m.cells,()),(m,())):=by
 unfold aeg amw
 rw [if_pos h]
 rfl
structure EI (c:Cfg) (K:Nat) (e:EnvP):Prop where
 ok:EOk K e
 l:e.l=aaE c
 c:e.c=c
 ct:0≤e.m.count∧e.m.count≤K
 cl:e.m.cells.length≤1000000
def mnC (c:Cfg):Int:=if 16<c.workers then 16 else c.workers
def WI (c:Cfg) (K:Nat) (j:Int) (w:WorkerV MV):Prop:=∃ k,w=aen (aaE c) j k∧aib K (mnC c) k
section
variable {c:Cfg} {K:Nat} {e:EnvP} {j:Int} {w:WorkerV MV} {l:ClientV MV}
theorem EI.many (h:EI c K e):ab6 e=mnC c:=by unfold ab6 mnC; rw [h.c]
theorem ay9 {m m':MemV} (h:One m m') {K:Nat} (hc:0≤m.count∧m.count≤K) (hK:K≤1000000):(0≤m'.count∧m'.count≤((K+3:Nat):Int))∧m'.cells.length=m.cells.length:=by
 cases h with
 | no =>exact ⟨by omega,rfl⟩
 | yes k a v h hk =>
  refine ⟨?_,by simp⟩
  show 0≤wi (m.count+1)∧wi (m.count+1)≤_
  rw [aaw (aai (by omega))]
  omega
theorem EI.stp (h:EI c K e) (hK:K≤1000000) {e':EnvP} (s:Stp 2 e e'):EI c (K+3) e' :=
 have h1:=ay9 s.m h.ct hK
 ⟨h.ok.step s,by rw [s.l]; exact h.l,by rw [s.c]; exact h.c,h1.1,by rw [h1.2]; exact h.cl⟩
theorem aib.up {K L:Nat} (h:K≤L) {n:Int} {k:WorkS} (hw:aib K n k):aib L n k:=by
 obtain ⟨a,b,d,f,g⟩:=k
 cases g with
 | t7 s =>exact ⟨hw.1,Nat.le_trans hw.2 h⟩
 | t3 s =>exact hw
 | t4 s =>exact hw
 | _ =>trivial
theorem WI.up {K L:Nat} (h:K≤L) (hw:WI c K j w):WI c L j w:=by
 obtain ⟨k,h1,h2⟩:=hw
 exact ⟨k,h1,h2.up h⟩
theorem EI.up {L:Nat} (h:K≤L) (he:EI c K e):EI c L e:=⟨⟨he.ok.dq,he.ok.tk,he.ok.ct,he.ok.wk,by have:=he.ok.ev; omega,fun r hr =>by have:=he.ok.kd r hr; omega⟩,he.l,he.c,by have:=he.ct; omega,he.cl⟩
theorem EI.clk {k:ClkV} (he:EI c K e):EI c K { e with k:=k }:=⟨⟨he.ok.dq,he.ok.tk,he.ok.ct,he.ok.wk,he.ok.ev,he.ok.kd⟩,he.l,he.c,he.ct,he.cl⟩
theorem al9 {x:EntV} {n:Int} (hn:1≤n∧n≤1000) (h:x.kind=0):aaP (acw x n) fun o =>0≤o.1.1∧o.1.1<n:=by
 have h1:Int.tmod x.value n<n ∧ -n<Int.tmod x.value n:=by
  constructor
  ·exact Int.tmod_lt_of_pos _ (by omega)
  ·have h2:Int.tmod (-x.value) n<n:=Int.tmod_lt_of_pos _ (by omega)
   rw [Int.neg_tmod] at h2
   omega
 unfold acw
 rw [if_neg (fun h' =>h' h),if_neg (by omega),if_pos (by omega)]
 refine aaP.ite (fun hl =>?_) fun hl =>.some_ ⟨by show 0≤Int.tmod x.value n; omega,h1.1⟩
 rw [aaw (aai (by omega))]
 exact .some_ ⟨by show 0≤Int.tmod x.value n+n; omega,by show Int.tmod x.value n+n<n; omega⟩
end
theorem aHM {c:Cfg} (h:DecOk c):EI c 1 (arh c):=by
 have hn:=(alt (afU h)).1
 have ht:=ary hn
 have h1:=h.w
 have h2:=h.l
 have h3:=h.k
 have h4:=h.t
 have h5:=h.q
 have h6:=h.h
 refine ⟨⟨?_,?_,?_,?_,Nat.zero_le _,fun r hr =>?_⟩,rfl,rfl,⟨Int.le_refl 0,by show (0:Int)≤1; omega⟩,?_⟩
 ·show 0≤c.deque∧c.deque≤65535; omega
 ·show c.tasks=((List.replicate c.tasks.toNat aAK).length:Int)
  rw [List.length_replicate]; omega
 ·show c.tasks=((List.replicate c.tasks.toNat aAK).length:Int)
  rw [List.length_replicate]; omega
 ·show 1≤c.workers; omega
 ·have:=List.eq_of_mem_replicate hr
  rw [this]
  exact Nat.zero_le _
 ·show (List.replicate (aa9 c).toNat 0).length≤_
  rw [List.length_replicate]
  unfold aa9 aaE
  simp only
  omega
theorem axc {c:Cfg} (h:DecOk c):afW c=some ((asT c.subs c.workers ⟨0,0,false,.n1⟩,()),()):=by
 unfold afW
 rw [axb (.of (afU h)),bnd,if_pos rfl]
theorem akI {l:LayV} {j:Int}:adq j=some ((aen l j ⟨0,0,0,0,.top⟩,()),()):=rfl
end
end Go.Proofs.YtdnimkpfgjcjeaaGreat
