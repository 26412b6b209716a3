/- The reference's model: what each kind of event does (spawns,walks up the parents,offers). The reference's model: what each kind of event does (the queue,the client). The two models: when their states agree,and what keeps that. The two models: what keeps that their states agree (tasks that run,stop,are new). The two models: they agree at each kind of event. The two models: they agree at each kind of event (tops of stacks,the queue). The two models: they agree at every event. -/
import Derived.Test.YtkmkhldmflebkaaGreatCzaq
set_option linter.all false
namespace Go.Proofs.YtkmkhldmflebkaaGreat
section
open Go Go.RowKit
set_option maxRecDepth 3000
variable [Tb]
section
variable {r:SaV} {w t o l:Int}
theorem apE {xs:List TkV} (ht:0≤t∧t<(xs.length:Int)) {x:TkV} (h:x.view.phase=(aaa xs t).view.phase):aeq (xs.set t.toNat x)=aeq xs:=by
 have e:∀ l:List TkV,aeq l=(l.map fun y =>y.view.phase).countP fun z =>decide (z≠0):=fun l =>by
  unfold aeq; rw [List.countP_map]; rfl
 rw [e,e]
 have:(xs.set t.toNat x).map (fun y =>y.view.phase)=xs.map fun y =>y.view.phase:=by
  rw [List.map_set,h,← List.map_set]
  exact congrArg _ (anx (α:=TkV) (d:=(dfR 61:TkV)) ht)
 rw [this]
theorem rk4 (hR:RO r) (hw:0≤w∧w<(r.works.length:Int)) (ht:0≤t∧t<(r.tasks.length:Int)) {P:List Ins} (hp:aa8 (aac r.works w).stack=t→RP r t P) (hf:aad r ⟨4,w,t,o,l⟩=some ((true,()),(r,()))) :
  RS r ⟨4,w,t,o,l⟩ (aa8 (aac r.works w).stack=t∧(prR P (aaa r.tasks t)).2.2=true∧(prR P (aaa r.tasks t)).2.1.op=1∧wi (r.c.tasks-r.c.workers)≤(aeq r.tasks:Int)) { r with tasks:=r.tasks.set t.toNat { aaa r.tasks t with pc:=wi ((prR P (aaa r.tasks t)).1+1),kids:=(aaa r.tasks t).kids++[-1] },works:=r.works.set w.toNat { aac r.works w with last:=⟨4,w,t,o,l⟩ } }:=by
 suffices h:RA r ⟨4,w,t,o,l⟩ (aa8 (aac r.works w).stack=t∧(prR P (aaa r.tasks t)).2.2=true∧(prR P (aaa r.tasks t)).2.1.op=1∧wi (r.c.tasks-r.c.workers)≤(aeq r.tasks:Int)) { r with tasks:=r.tasks.set t.toNat { aaa r.tasks t with pc:=wi ((prR P (aaa r.tasks t)).1+1),kids:=(aaa r.tasks t).kids++[-1] },works:=r.works.set w.toNat (aac r.works w) } from agO hw hR.wl hf h
 have hk:=hR.stk w hw
 have hkk:=hR.kid t ht
 unfold RA aak abj
 have htops:=aik (r:=r) hw ht.1 hk
 by_cases htp:aa8 (aac r.works w).stack=t
 rotate_left
 ·rw [decide_eq_false htp] at htops
  simp only [aav,Int.reduceEq,if_true,if_false,hw,ht,and_self,aaQ,aaP,List.set_set,List.length_set,aep,aeN,ne_eq,not_true_eq_false,not_false_eq_true,true_and,and_true,decide_true,decide_false,reduceCtorEq,aa1,abP,abv,ac8,Bool.not_true,Bool.not_false,Bool.false_eq_true,Bool.not_eq_true',Bool.true_eq_false,htops,htp]
  exact ⟨_,_,rfl,(fun h =>nomatch h),(fun _ =>(by simp [htp]))⟩
 rw [decide_eq_true htp] at htops
 have hpr:=an4 ht (hp htp)
 obtain ⟨q1,q2,q3⟩:=akG htp ht.1 hk
 have q4:0≤((aac r.works w).stack.length:Int)-1∧((aac r.works w).stack.length:Int)-1≤((aac r.works w).stack.length:Int):=⟨q2.1,by omega⟩
 have hkk:=hR.kid t ht
 try unfold ae9
 generalize hv:prR P (aaa r.tasks t)=v at *
 obtain ⟨j,i,b⟩:=v
 cases b with
 | false =>
  simp only [aav,Int.reduceEq,if_true,if_false,hw,ht,and_self,aaQ,aaP,List.set_set,List.length_set,aep,aeN,ne_eq,not_true_eq_false,not_false_eq_true,true_and,and_true,decide_true,decide_false,reduceCtorEq,aa1,abP,abv,ac8,Bool.not_true,Bool.not_false,Bool.false_eq_true,Bool.not_eq_true',Bool.true_eq_false,htops,hpr]
  exact ⟨_,_,rfl,(fun h =>nomatch h),(fun _ =>(by simp))⟩
 | true =>
  by_cases h2:i.op=1
  rotate_left
  ·simp only [aav,Int.reduceEq,if_true,if_false,hw,ht,and_self,aaQ,aaP,List.set_set,List.length_set,aep,aeN,ne_eq,not_true_eq_false,not_false_eq_true,true_and,and_true,decide_true,decide_false,reduceCtorEq,aa1,abP,abv,ac8,Bool.not_true,Bool.not_false,Bool.false_eq_true,Bool.not_eq_true',Bool.true_eq_false,htops,hpr,h2]
   exact ⟨_,_,rfl,(fun h =>nomatch h),(fun _ =>(by simp [h2]))⟩
  have hkn:=aof (r:={ r with tasks:=r.tasks.set t.toNat { aaa r.tasks t with pc:=j } }) (by rw [List.length_set]; exact hR.tl)
  rw [apE ht (x:={ aaa r.tasks t with pc:=j }) rfl] at hkn
  have hn1:((([]:List Int).length+(aaa r.tasks t).kids.length:Nat):Int)<1000000000000:=by rw [List.length_nil]; omega
  have hn2:(((aaa r.tasks t).kids.length+([(-1)]:List Int).length:Nat):Int)<1000000000000:=by simp only [List.length_singleton]; omega
  simp only [aav,Int.reduceEq,if_true,if_false,hw,ht,and_self,aaQ,aaP,List.set_set,List.length_set,aep,aeN,ne_eq,not_true_eq_false,not_false_eq_true,true_and,and_true,decide_true,decide_false,reduceCtorEq,aa1,abP,abv,ac8,Bool.not_true,Bool.not_false,Bool.false_eq_true,Bool.not_eq_true',Bool.true_eq_false,htops,hpr,htp,q1,q2,q3,q4,List.nil_append,hkn,hn1,hn2,h2]
  repeat' split
  all_goals first
   | exact aoF (by first | exact True.intro | (simp_all; done) | omega) rfl
   | exact amn (by first | exact True.intro | (simp_all; done) | omega)
theorem rk3 (hR:RO r) (hw:0≤w∧w<(r.works.length:Int)) (ht:0≤t∧t<(r.tasks.length:Int)) (ho:0≤o∧o<(r.tasks.length:Int)) (hph:aa8 (aac r.works w).stack=o→(aaa r.tasks o).view.phase≠0) {P:List Ins} (hp:aa8 (aac r.works w).stack=o→RP r o P) (hf:aad r ⟨3,w,t,o,l⟩=some ((true,()),(r,()))) :
  RS r ⟨3,w,t,o,l⟩ (aa8 (aac r.works w).stack=o∧(prR P (aaa r.tasks o)).2.2=true∧(prR P (aaa r.tasks o)).2.1.op=1∧(prR P (aaa r.tasks o)).2.1.b=l∧(aaa r.tasks t).view.phase=0) { r with tasks:=(r.tasks.set o.toNat { aaa r.tasks o with pc:=wi ((prR P (aaa r.tasks o)).1+1),kids:=(aaa r.tasks o).kids++[t] }).set t.toNat ⟨⟨1,l,o,-1,-1⟩,(prR P (aaa r.tasks o)).2.1.a,0,[]⟩,works:=r.works.set w.toNat { aac r.works w with last:=⟨3,w,t,o,l⟩ } }:=by
 suffices h:RA r ⟨3,w,t,o,l⟩ (aa8 (aac r.works w).stack=o∧(prR P (aaa r.tasks o)).2.2=true∧(prR P (aaa r.tasks o)).2.1.op=1∧(prR P (aaa r.tasks o)).2.1.b=l∧(aaa r.tasks t).view.phase=0) { r with tasks:=(r.tasks.set o.toNat { aaa r.tasks o with pc:=wi ((prR P (aaa r.tasks o)).1+1),kids:=(aaa r.tasks o).kids++[t] }).set t.toNat ⟨⟨1,l,o,-1,-1⟩,(prR P (aaa r.tasks o)).2.1.a,0,[]⟩,works:=r.works.set w.toNat (aac r.works w) } from agO hw hR.wl hf h
 have hk:=hR.stk w hw
 have hkk:=hR.kid t ht
 unfold RA aak abj aaR
 have htops:=aik (r:=r) hw ho.1 hk
 by_cases htp:aa8 (aac r.works w).stack=o
 rotate_left
 ·rw [decide_eq_false htp] at htops
  simp only [aav,Int.reduceEq,if_true,if_false,hw,ht,and_self,aaQ,aaP,List.set_set,List.length_set,aep,aeN,ne_eq,not_true_eq_false,not_false_eq_true,true_and,and_true,decide_true,decide_false,reduceCtorEq,aa1,abP,abv,ac8,Bool.not_true,Bool.not_false,Bool.false_eq_true,Bool.not_eq_true',Bool.true_eq_false,htops,htp]
  exact ⟨_,_,rfl,(fun h =>nomatch h),(fun _ =>(by simp [htp]))⟩
 rw [decide_eq_true htp] at htops
 have hpr:=an4 ho (hp htp)
 obtain ⟨q1,q2,q3⟩:=akG htp ho.1 hk
 have q4:0≤((aac r.works w).stack.length:Int)-1∧((aac r.works w).stack.length:Int)-1≤((aac r.works w).stack.length:Int):=⟨q2.1,by omega⟩
 have hkk:=hR.kid o ho
 try unfold ae9
 generalize hv:prR P (aaa r.tasks o)=v at *
 obtain ⟨j,i,b⟩:=v
 cases b with
 | false =>
  simp only [aav,Int.reduceEq,if_true,if_false,hw,ht,and_self,aaQ,aaP,List.set_set,List.length_set,aep,aeN,ne_eq,not_true_eq_false,not_false_eq_true,true_and,and_true,decide_true,decide_false,reduceCtorEq,aa1,abP,abv,ac8,Bool.not_true,Bool.not_false,Bool.false_eq_true,Bool.not_eq_true',Bool.true_eq_false,htops,hpr]
  exact ⟨_,_,rfl,(fun h =>nomatch h),(fun _ =>(by simp))⟩
 | true =>
  by_cases h2:i.op=1
  rotate_left
  ·simp only [aav,Int.reduceEq,if_true,if_false,hw,ht,and_self,aaQ,aaP,List.set_set,List.length_set,aep,aeN,ne_eq,not_true_eq_false,not_false_eq_true,true_and,and_true,decide_true,decide_false,reduceCtorEq,aa1,abP,abv,ac8,Bool.not_true,Bool.not_false,Bool.false_eq_true,Bool.not_eq_true',Bool.true_eq_false,htops,hpr,h2]
   exact ⟨_,_,rfl,(fun h =>nomatch h),(fun _ =>(by simp [h2]))⟩
  have hn1:((([]:List Int).length+(aaa r.tasks o).kids.length:Nat):Int)<1000000000000:=by rw [List.length_nil]; omega
  have hn2:(((aaa r.tasks o).kids.length+([t]:List Int).length:Nat):Int)<1000000000000:=by simp only [List.length_singleton]; omega
  by_cases h5:i.b=l
  rotate_left
  ·simp only [aav,Int.reduceEq,if_true,if_false,hw,ht,and_self,aaQ,aaP,List.set_set,List.length_set,aep,aeN,ne_eq,not_true_eq_false,not_false_eq_true,true_and,and_true,decide_true,decide_false,reduceCtorEq,aa1,abP,abv,ac8,Bool.not_true,Bool.not_false,Bool.false_eq_true,Bool.not_eq_true',Bool.true_eq_false,htops,hpr,h2,h5]
   exact ⟨_,_,rfl,(fun h =>nomatch h),(fun _ =>(by simp [h5]))⟩
  by_cases h6:(aaa r.tasks t).view.phase=0
  rotate_left
  ·simp only [aav,Int.reduceEq,if_true,if_false,hw,ht,and_self,aaQ,aaP,List.set_set,List.length_set,aep,aeN,ne_eq,not_true_eq_false,not_false_eq_true,true_and,and_true,decide_true,decide_false,reduceCtorEq,aa1,abP,abv,ac8,Bool.not_true,Bool.not_false,Bool.false_eq_true,Bool.not_eq_true',Bool.true_eq_false,ho,htops,hpr,h2,h5,amL ho ht,h6]
   exact ⟨_,_,rfl,(fun h =>nomatch h),(fun _ =>(by simp [h6]))⟩
  have hne:o≠t:=fun e =>hph htp (by rw [e]; exact h6)
  have hat:∀ {x y:TkV},aaa ((r.tasks.set o.toNat x).set t.toNat y) o=x:=fun {x y} =>(akj ht.1 ho.1 (fun e =>hne e.symm)).trans (aep ho)
  have hcm:∀ {x y z:TkV},((r.tasks.set o.toNat x).set t.toNat y).set o.toNat z=(r.tasks.set o.toNat z).set t.toNat y:=fun {x y z} =>by
   rw [List.set_comm _ _ (show t.toNat≠o.toNat by omega),List.set_set]
  simp only [aav,Int.reduceEq,if_true,if_false,hw,ht,and_self,aaQ,aaP,List.set_set,List.length_set,aep,aeN,ne_eq,not_true_eq_false,not_false_eq_true,true_and,and_true,decide_true,decide_false,reduceCtorEq,aa1,abP,abv,ac8,Bool.not_true,Bool.not_false,Bool.false_eq_true,Bool.not_eq_true',Bool.true_eq_false,htops,hpr,htp,q1,q2,q3,q4,List.nil_append,ho,hn1,hn2,h2,h5,amL ho ht,h6,hat,hcm]
  exact ⟨_,_,rfl,(fun _ =>rfl),(fun h =>nomatch h)⟩
theorem atQ {α β:Type} {o:Option β} {g:α⊕β→Option β} (h1:∀ x,g (.inr x)=some x):(Option.map Sum.inr o).bind g=o:=by
 cases o with
 | none =>rfl
 | some x =>exact h1 x
def dRF {β:Type} (ts:List TkV) (x:Int) (R:Option β):(Int×Int×Unit→Option ((Int×Int×Unit)⊕β))→Int×Int×Unit→Option ((Int×Int×Unit)⊕β):=fun self3 x1 =>if x1.2.1<(ts.length:Int) then (if 0≤x1.1 then (if x1.1<(ts.length:Int) then (if 0≤x1.1∧x1.1<(ts.length:Int) then (if (aaa ts x1.1).view.parent=x then Option.map Sum.inr R else self3 ((aaa ts x1.1).view.parent,wi (x1.2.1+1),())) else none) else some (Sum.inl (x1.1,x1.2.1,()))) else some (Sum.inl (x1.1,x1.2.1,()))) else some (Sum.inl (x1.1,x1.2.1,()))
theorem auz {β:Type} {ts:List TkV} {x:Int} {rk:Int→Nat} (hr:∀ i,0≤i∧i<(ts.length:Int)→(aaa ts i).view.parent=-1∨(0≤(aaa ts i).view.parent∧(aaa ts i).view.parent<(ts.length:Int))∧rk (aaa ts i).view.parent<rk i) (hx:x ≠ -1) (hl:ts.length≤1000000) :
  ∀ (n k:Nat) (t m:Int),0≤t∧t<(ts.length:Int)→rk t<n→rk t+1<k→0≤m→m+rk t<(ts.length:Int)→∃ z,∀ R:Option β,
  lpF (dRF ts x R) k (t,m,())=if ar9 (fun i =>(aaa ts i).view.parent) x n t=true then Option.map Sum.inr R else some (Sum.inl z)
 | 0,k,t,m,ht,hn,hk,h0,hm =>by omega
 | n+1,0,t,m,ht,hn,hk,h0,hm =>by omega
 | n+1,1,t,m,ht,hn,hk,h0,hm =>by omega
 | n+1,k+2,t,m,ht,hn,hk,h0,hm =>by
  have e1:wi (m+1)=m+1:=aa2 (aae (by omega))
  have st:∀ R:Option β,lpF (dRF ts x R) (k+2) (t,m,())=if (aaa ts t).view.parent=x then Option.map Sum.inr R else lpF (dRF ts x R) (k+1) ((aaa ts t).view.parent,m+1,()):=fun R =>by
   rw [lpS]
   generalize lpF (dRF ts x R) (k+1)=self
   unfold dRF
   dsimp only
   rw [if_pos (show m<(ts.length:Int) by omega),if_pos ht.1,if_pos ht.2,if_pos ht,e1]
  simp only [st]
  unfold ar9
  by_cases h1:(aaa ts t).view.parent=-1
  ·refine ⟨((-1),m+1,()),fun R =>?_⟩
   rw [if_pos h1,if_neg (show ¬ false=true by decide),h1,if_neg (fun h =>hx h.symm),lpS]
   generalize lpF (dRF ts x R) k=self
   unfold dRF
   dsimp only
   split<;>rfl
  ·simp only [if_neg h1]
   by_cases h2:(aaa ts t).view.parent=x
   ·exact ⟨(0,0,()),fun R =>by rw [if_pos h2,if_pos h2,if_pos rfl]⟩
   ·rcases hr t ht with h3 | ⟨h3,h4⟩
    ·exact absurd h3 h1
    ·simp only [if_neg h2]
     exact auz hr hx hl n (k+1) _ (m+1) h3 (by omega) (by omega) (by omega) (by omega)
theorem aCT (hR:RO r) (hw:0≤w∧w<(r.works.length:Int)) (ht:0≤t∧t<(r.tasks.length:Int)) (hwk:(aac r.works w).walk ≠ -1→0≤(aac r.works w).walk∧(aac r.works w).walk<(r.tasks.length:Int)) {rk:Int→Nat} (hrk:∀ i,0≤i∧i<(r.tasks.length:Int)→(aaa r.tasks i).view.parent=-1∨(0≤(aaa r.tasks i).view.parent∧(aaa r.tasks i).view.parent<(r.tasks.length:Int))∧rk (aaa r.tasks i).view.parent<rk i) (hrn:rk t<r.tasks.length) (hf:aad r ⟨11,w,t,o,l⟩=some ((true,()),(r,()))) :
  RS r ⟨11,w,t,o,l⟩ ((aac r.works w).walk ≠ -1∧ar9 (fun i =>(aaa r.tasks i).view.parent) (aac r.works w).walk r.tasks.length t=true∧(aaa r.tasks t).view.level<l∧l≤(aaa r.tasks (aac r.works w).walk).view.level∧(0≤(aac r.works w).up→(aac r.works w).up=l)) { r with tasks:=r.tasks.set t.toNat { aaa r.tasks t with view:={ (aaa r.tasks t).view with level:=l } },works:=r.works.set w.toNat { aac r.works w with up:=l,last:=⟨11,w,t,o,l⟩ } }:=by
 suffices h:RA r ⟨11,w,t,o,l⟩ ((aac r.works w).walk ≠ -1∧ar9 (fun i =>(aaa r.tasks i).view.parent) (aac r.works w).walk r.tasks.length t=true∧(aaa r.tasks t).view.level<l∧l≤(aaa r.tasks (aac r.works w).walk).view.level∧(0≤(aac r.works w).up→(aac r.works w).up=l)) { r with tasks:=r.tasks.set t.toNat { aaa r.tasks t with view:={ (aaa r.tasks t).view with level:=l } },works:=r.works.set w.toNat { aac r.works w with up:=l } } from agO hw hR.wl hf h
 have hk:=hR.stk w hw
 have hkk:=hR.kid t ht
 unfold RA aak abI
 by_cases h3:(aac r.works w).walk=-1
 ·simp only [aav,Int.reduceEq,if_true,if_false,hw,ht,and_self,aaQ,aaP,List.set_set,List.length_set,aep,aeN,ne_eq,not_true_eq_false,not_false_eq_true,true_and,and_true,decide_true,decide_false,reduceCtorEq,aa1,abP,abv,ac8,Bool.not_true,Bool.not_false,Bool.false_eq_true,Bool.not_eq_true',Bool.true_eq_false,h3]
  exact ⟨_,_,rfl,(fun h =>nomatch h),(fun _ =>(by simp))⟩
 have hwk:=hwk h3
 have htl:=hR.tl
 simp only [aav,Int.reduceEq,if_true,if_false,hw,ht,and_self,aaQ,aaP,List.set_set,List.length_set,aep,aeN,ne_eq,not_true_eq_false,not_false_eq_true,true_and,and_true,decide_true,decide_false,reduceCtorEq,aa1,abP,abv,ac8,Bool.not_true,Bool.not_false,Bool.false_eq_true,Bool.not_eq_true',Bool.true_eq_false,h3,hwk]
 obtain ⟨z,hz⟩:=auz (β:=(Bool×Unit)×(SaV×Unit)) hrk h3 hR.tl r.tasks.length 18446744073709551616 t 0 ht hrn (by omega) (Int.le_refl _) (by omega)
 unfold dRF at hz
 rw [hz]
 by_cases hd:ar9 (fun i =>(aaa r.tasks i).view.parent) (aac r.works w).walk r.tasks.length t=true
 ·rw [if_pos hd,atQ (fun _ =>rfl)]
  simp only [hd,true_and]
  repeat' split
  all_goals (try simp only [aav,Bool.not_true,Bool.not_false,Bool.false_eq_true,if_true,if_false])
  all_goals first
   | exact aoF (by omega) rfl
   | exact amn (by omega)
 ·rw [if_neg hd]
  exact ⟨_,_,rfl,(fun h =>nomatch h),(fun _ =>fun h =>hd h.1)⟩
end
section
variable {r:SaV} {w t o l:Int}
theorem aCV {q:QuV} {c:Cfg} (hl:q.keys.length≤1000000):∃ i:Nat,(0<q.keys.length→i<q.keys.length∧∀ j:Nat,j<q.keys.length→¬ leK (abi q.keys (j:Int)) (abi q.keys (i:Int))) ∧
  aaF q c ⟨13,w,t,o,l⟩=if 0<q.keys.length∧(abi q.keys (i:Int)).task=t then some ((true,()),(⟨q.keys.take i++q.keys.drop (i+1),q.count⟩,())) else some ((false,()),(q,())):=by
 by_cases h:0<q.keys.length
 ·obtain ⟨⟨⟨x,u⟩,q',u'⟩,h1,h2,h3,h4⟩:=aAB h hl
  obtain rfl:q'=q:=h2
  have h3:0≤x∧x<(q'.keys.length:Int):=h3
  obtain ⟨i,rfl⟩:∃ i:Nat,x=(i:Int):=⟨x.toNat,by omega⟩
  refine ⟨i,fun _ =>⟨by omega,h4⟩,?_⟩
  unfold aaF
  rw [if_neg (show ¬ (13:Int)=1 by decide),if_pos rfl,if_neg (by omega),h1,aav]
  dsimp only
  rw [if_pos h3]
  by_cases h5:(abi q'.keys (i:Int)).task=t
  ·have e1:wi ((i:Int)+1)=((i+1:Nat):Int):=aa2 (aae (by omega))
   have n1:((([]:List KyV).length+(q'.keys.take ((i:Int)).toNat).length:Nat):Int)<1000000000000:=by rw [List.length_take,List.length_nil]; omega
   have n2:(((([]:List KyV)++(q'.keys.take ((i:Int)).toNat)).length+(q'.keys.drop (((i+1:Nat):Int)).toNat).length:Nat):Int)<1000000000000:=by rw [List.nil_append,List.length_take,List.length_drop]; omega
   rw [if_neg (fun h =>h h5),e1,if_pos (by omega),if_pos (by omega),if_pos n1,if_pos n2,if_pos ⟨h,h5⟩]
   rfl
  ·rw [if_pos h5,if_neg (fun h =>h5 h.2)]
 ·refine ⟨0,fun h' =>absurd h' h,?_⟩
  unfold aaF
  rw [if_neg (show ¬ (13:Int)=1 by decide),if_pos rfl,if_pos (by omega),if_neg (fun h' =>h h'.1)]
theorem qR1 {q:QuV} {c:Cfg} (ho:0≤o∧o<(c.subs.length:Int)) (hl:q.keys.length≤1000000) :
  aaF q c ⟨1,w,t,o,l⟩=if (q.keys.length:Int)<c.heap then some ((true,()),(⟨q.keys++[⟨(acK c.subs o).deadline,q.count,t⟩],wi (q.count+1)⟩,())) else some ((false,()),(q,())):=by
 unfold aaF
 rw [if_pos rfl]
 dsimp only
 rw [if_neg (show ¬ o<0 by omega),if_neg (show ¬ (c.subs.length:Int)≤o by omega),aav]
 dsimp only
 by_cases h:(q.keys.length:Int)<c.heap
 ·have n1:((([]:List KyV).length+q.keys.length:Nat):Int)<1000000000000:=by rw [List.length_nil]; omega
  have n2:(((([]:List KyV)++q.keys).length+([(⟨(acK c.subs o).deadline,q.count,t⟩:KyV)]:List KyV).length:Nat):Int)<1000000000000:=by rw [List.nil_append,List.length_singleton]; omega
  rw [if_neg (by rw [decide_eq_true_eq]; omega),if_pos ho,if_pos n1,if_pos n2,if_pos h]; rfl
 ·rw [if_pos (by rw [decide_eq_true_eq]; omega),if_neg h]
theorem aCR (hR:RO r) (hw:0≤w∧w<(r.works.length:Int)) (hq:r.queue.keys.length≤1000000) (hf:aad r ⟨13,w,t,o,l⟩=some ((true,()),(r,()))) :
  ∃ i:Nat,(0<r.queue.keys.length→i<r.queue.keys.length∧∀ j:Nat,j<r.queue.keys.length→¬ leK (abi r.queue.keys (j:Int)) (abi r.queue.keys (i:Int))) ∧
  RS r ⟨13,w,t,o,l⟩ (alV (aac r.works w).stack (aac r.works w).walk=true∧0<r.queue.keys.length∧(abi r.queue.keys (i:Int)).task=t)
   { r with works:=r.works.set w.toNat { aac r.works w with last:=⟨13,w,t,o,l⟩ },queue:=⟨r.queue.keys.take i++r.queue.keys.drop (i+1),r.queue.count⟩ }:=by
 obtain ⟨i,h1,h2⟩:=aCV (q:=r.queue) (c:=r.c) (w:=w) (t:=t) (o:=o) (l:=l) hq
 refine ⟨i,h1,?_⟩
 suffices h:RA r ⟨13,w,t,o,l⟩ (alV (aac r.works w).stack (aac r.works w).walk=true∧0<r.queue.keys.length∧(abi r.queue.keys (i:Int)).task=t) { r with works:=r.works.set w.toNat (aac r.works w),queue:=⟨r.queue.keys.take i++r.queue.keys.drop (i+1),r.queue.count⟩ } from agO hw hR.wl hf h
 unfold RA aak alV
 simp only [aav,Int.reduceEq,if_true,if_false,hw,and_self,aaP,List.length_set,decide_false,Bool.false_eq_true,h2]
 by_cases h3:((aac r.works w).stack.length:Int)=0
 ·by_cases h4:(aac r.works w).walk=-1
  ·by_cases h5:0<r.queue.keys.length∧(abi r.queue.keys (i:Int)).task=t
   ·rw [if_pos h3,if_pos h4,if_pos h5]
    exact ⟨_,_,rfl,(fun _ =>⟨⟨by rw [if_pos h3]; exact decide_eq_true h4,h5⟩,rfl⟩),(fun h =>nomatch h)⟩
   ·rw [if_pos h3,if_pos h4,if_neg h5]
    exact ⟨_,_,rfl,(fun h =>nomatch h),fun _ h =>h5 h.2⟩
  ·rw [if_pos h3,if_neg h4]
   exact amn (fun h =>by have h:=h.1; rw [if_pos h3,decide_eq_true_eq] at h; exact h4 h)
 ·rw [if_neg h3]
  exact amn (fun h =>by have h:=h.1; rw [if_neg h3] at h; cases h)
theorem azX (hwc:w=r.c.workers) (hf:aad r ⟨18,w,t,o,l⟩=some ((true,()),(r,()))):RS r ⟨18,w,t,o,l⟩ (0≤o∧o<r.c.workers) r:=by
 unfold RS aas aak
 rw [hf]
 simp only [aav,Int.reduceEq,if_true,if_false,decide_false,Bool.false_eq_true,Bool.not_true]
 by_cases h1:0≤o
 ·by_cases h2:o<r.c.workers
  ·rw [if_pos h1,decide_eq_true h2,aav,if_neg (show ¬ (!true)=true by decide)]
   dsimp only
   rw [if_neg (by omega)]
   exact aoF ⟨h1,h2⟩ rfl
  ·rw [if_pos h1,decide_eq_false h2,aav,if_pos (show (!false)=true by decide)]
   exact amn (fun h =>h2 h.2)
 ·rw [if_neg h1,aav,if_pos (show (!false)=true by decide)]
  exact amn (fun h =>h1 h.1)
theorem azW {k:Int} {C:Prop} {ts:List TkV} {qu:QuV} {of:Int} (hk:k=1∨k=2) (hf:aad r ⟨k,w,t,o,l⟩=some ((true,()),(r,())))
  (h:∃ b q,abJ r ⟨k,w,t,o,l⟩=some ((b,()),(q,()))∧(b=true→w=r.c.workers∧C∧q=⟨r.c,ts,r.works,qu,of⟩)∧(b=false→¬ (w=r.c.workers∧C))):RS r ⟨k,w,t,o,l⟩ (w=r.c.workers∧C) ⟨r.c,ts,r.works,qu,of⟩:=by
 obtain ⟨b,q,h1,h2,h3⟩:=h
 unfold RS aas aak
 rw [hf,aav,if_neg (show ¬ (!true)=true by decide)]
 dsimp only
 have e:((if k=1 then some (decide (k=1),()) else some (decide (k=2),())):Option (Bool×Unit))=some (true,()):=by
  rcases hk with rfl | rfl
  ·rfl
  ·rfl
 rw [e,aav,if_pos rfl,h1,aav,aav]
 cases b with
 | false =>exact ⟨_,_,rfl,(fun h =>nomatch h),h3⟩
 | true =>
  obtain ⟨h4,h5,rfl⟩:=h2 rfl
  rw [if_neg (show ¬ (!true)=true by decide)]
  dsimp only
  rw [if_neg (by omega)]
  exact ⟨_,_,rfl,fun _ =>⟨⟨h4,h5⟩,rfl⟩,(fun h =>nomatch h)⟩
theorem aC6 {A C:Prop} {x y:SaV} (h1:A) (h2:C) (e:x=y):∃ b q,some ((true,()),(x,()))=some ((b,()),(q,()))∧(b=true→A∧C∧q=y)∧(b=false→¬ (A∧C)):=⟨_,_,rfl,fun _ =>⟨h1,h2,e⟩,(fun h =>nomatch h)⟩
theorem aC7 {A C:Prop} {x y:SaV} (h:¬ (A∧C)):∃ b q,some ((false,()),(x,()))=some ((b,()),(q,()))∧(b=true→A∧C∧q=y)∧(b=false→¬ (A∧C)):=⟨_,_,rfl,(fun h =>nomatch h),fun _ =>h⟩
theorem rk2 (hR:RO r) (hf:aad r ⟨2,w,t,o,l⟩=some ((true,()),(r,()))) :
    RS r ⟨2,w,t,o,l⟩ (w=r.c.workers∧o=r.offers∧o<(r.c.subs.length:Int)∧(l=1∧(r.queue.keys.length:Int)=r.c.heap∨l=2∧(r.queue.keys.length:Int)<r.c.heap∧wi (r.c.tasks-r.c.workers)≤(aeq r.tasks:Int)))
      { r with offers:=wi (r.offers+1) }:=by
  refine azW (.inr rfl) hf ?_
  have hkn:=aof (r:={ r with offers:=wi (r.offers+1) }) hR.tl
  unfold abJ
  dsimp only
  by_cases h1:w=r.c.workers
  rotate_left
  · rw [if_pos h1]
    exact ⟨_,_,rfl,(fun h =>nomatch h),fun _ h =>h1 h.1⟩
  rw [if_neg (fun h =>h h1)]
  by_cases h2:o=r.offers
  rotate_left
  · rw [if_pos h2]
    exact ⟨_,_,rfl,(fun h =>nomatch h),fun _ h =>h2 h.2.1⟩
  rw [if_neg (fun h =>h h2)]
  by_cases h3:o<(r.c.subs.length:Int)
  rotate_left
  · rw [decide_eq_true (by omega)]
    exact ⟨_,_,rfl,(fun h =>nomatch h),fun _ h =>h3 h.2.2.1⟩
  rw [decide_eq_false (by omega),aav,if_neg (show ¬ false=true by decide)]
  dsimp only
  rw [if_pos rfl]
  simp only [hkn,aav,if_true]
  repeat' split
  all_goals first
    | (refine ⟨_,_,rfl,fun h =>⟨h1,⟨h2,h3,?_⟩,rfl⟩,fun h h' =>?_⟩
       · have h:=of_decide_eq_true h
         omega
       · have h:=of_decide_eq_false h
         omega)
    | exact aC6 h1 ⟨h2,h3,by omega⟩ rfl
    | exact aC7 (fun h =>by omega)
theorem rk1 (ht:0≤t∧t<(r.tasks.length:Int)) (hof:0≤r.offers) (hq:r.queue.keys.length≤1000000) (hf:aad r ⟨1,w,t,o,l⟩=some ((true,()),(r,()))) :
  RS r ⟨1,w,t,o,l⟩ (w=r.c.workers∧o=r.offers∧o<(r.c.subs.length:Int)∧l=(acK r.c.subs o).level∧(aaa r.tasks t).view.phase=0∧(r.queue.keys.length:Int)<r.c.heap)
   ⟨r.c,r.tasks.set t.toNat ⟨⟨1,l,-1,-1,-1⟩,(acK r.c.subs o).prog,0,[]⟩,r.works,⟨r.queue.keys++[⟨(acK r.c.subs o).deadline,r.queue.count,t⟩],wi (r.queue.count+1)⟩,wi (r.offers+1)⟩:=by
 refine azW (.inl rfl) hf ?_
 unfold abJ
 dsimp only
 by_cases h1:w=r.c.workers
 rotate_left
 ·rw [if_pos h1]
  exact ⟨_,_,rfl,(fun h =>nomatch h),fun _ h =>h1 h.1⟩
 rw [if_neg (fun h =>h h1)]
 by_cases h2:o=r.offers
 rotate_left
 ·rw [if_pos h2]
  exact ⟨_,_,rfl,(fun h =>nomatch h),fun _ h =>h2 h.2.1⟩
 rw [if_neg (fun h =>h h2)]
 by_cases h3:o<(r.c.subs.length:Int)
 rotate_left
 ·rw [decide_eq_true (by omega)]
  exact ⟨_,_,rfl,(fun h =>nomatch h),fun _ h =>h3 h.2.2.1⟩
 have ho:0≤o∧o<(r.c.subs.length:Int):=⟨by omega,h3⟩
 rw [decide_eq_false (by omega),aav,if_neg (show ¬ false=true by decide)]
 unfold aaR
 simp only [Int.reduceEq,if_false,ho,and_self,if_true,ht,aaQ,qR1 ho hq]
 by_cases h4:l=(acK r.c.subs o).level
 rotate_left
 ·rw [if_pos h4]
  exact ⟨_,_,rfl,(fun h =>nomatch h),fun _ h =>h4 h.2.2.2.1⟩
 rw [if_neg (fun h =>h h4)]
 by_cases h5:(aaa r.tasks t).view.phase=0
 rotate_left
 ·rw [if_pos h5]
  exact ⟨_,_,rfl,(fun h =>nomatch h),fun _ h =>h5 h.2.2.2.2.1⟩
 rw [if_neg (fun h =>h h5)]
 by_cases h6:(r.queue.keys.length:Int)<r.c.heap
 ·rw [if_pos h6,aav,if_neg (show ¬ (!true)=true by decide),aav]
  exact ⟨_,_,rfl,(fun _ =>⟨h1,⟨h2,(by first | exact h3 | exact True.intro),h4,h5,h6⟩,rfl⟩),(fun h =>nomatch h)⟩
 ·rw [if_neg h6,aav,if_pos (show (!false)=true by decide)]
  exact ⟨_,_,rfl,(fun h =>nomatch h),fun _ h =>h6 h.2.2.2.2.2⟩
end
end
section
open Go Go.RowKit
set_option maxRecDepth 10000
variable [Tb]
structure TR1 (n:Nat) (c:Cfg) (x:TkP) (y:TkV):Prop where
 ph:x.ph=y.view.phase
 lv:x.lv=y.view.level
 pa:x.pa=y.view.parent
 wt:x.wt=y.view.other
 pc:x.at_=y.pc
 kids:x.kids=y.kids
 kn:x.kids.length≤n
 at0:0≤x.at_∧x.at_≤(x.prog.length:Int)
 prog:x.ph≠0→(0≤y.prog∧y.prog<(c.progs.length:Int))∧x.prog=atL [] c.progs y.prog
 pl:x.prog.length≤1000000
 ot:x.ph≠3→x.wt=-1
 wr:x.ph=3→0≤x.wt∧x.wt<c.tasks
 wk:x.ph≠2→y.view.worker=-1
structure WR1 (n:Nat) (c:Cfg) (x:WkP) (y:WlV):Prop where
 stack:x.stack=y.stack
 sn:x.stack.length≤n
 won:x.walks=true→x.walk=y.walk∧(0≤y.walk∧y.walk<c.tasks)∧x.low=y.low∧x.up=y.up ∧ -1≤y.up
 woff:x.walks=false→y.walk=-1
 sleeps:x.sleeps=y.sleeps
 last:x.last=y.last
structure QR (n:Nat) (x:CtP) (y:QuV):Prop where
 s:Srt x.keys x.count
 c:x.count=y.count
 pm:List.Perm x.keys y.keys
 nb:(0≤x.count∧x.count≤n)∧x.keys.length≤n
def RKo (ts:List TkV) (rk:Int→Nat):Prop :=
 (∀ i,0≤i∧i<(ts.length:Int)→(aaa ts i).view.parent=-1∨((0≤(aaa ts i).view.parent∧(aaa ts i).view.parent<(ts.length:Int))∧(aaa ts (aaa ts i).view.parent).view.phase≠0∧rk (aaa ts i).view.parent<rk i)) ∧
 (∀ i,0≤i∧i<(ts.length:Int)→rk i<ts.length∧((aaa ts i).view.phase≠0→rk i<aeq ts))
structure BR (n:Nat) (p:SyP) (r:SaV):Prop where
 c:r.c=p.c
 tl:(p.tasks.length:Int)=p.c.tasks
 tl2:r.tasks.length=p.tasks.length
 tl3:p.tasks.length≤256
 wl:(p.works.length:Int)=p.c.workers+1
 wl2:(r.works.length:Int)=p.c.workers
 tk:∀ i,0≤i∧i<(p.tasks.length:Int)→TR1 n p.c (aah p.tasks i) (aaa r.tasks i)
 wk:∀ i,0≤i∧i<p.c.workers→WR1 n p.c (aam p.works i) (aac r.works i)
 cl:(aam p.works p.c.workers).stack=[]∧(aam p.works p.c.workers).sleeps=false
 of:r.offers=p.offers
 of0:0≤p.offers∧p.offers≤n
 qu:QR n p.queue r.queue
 kn:p.known=(aeq r.tasks:Int)
 st:∀ w,0≤w∧w<p.c.workers→∀ t∈(aac r.works w).stack,(0≤t∧t<(p.tasks.length:Int))∧(aaa r.tasks t).view.phase=2∧(aaa r.tasks t).view.worker=w
 nd:∀ w,0≤w∧w<p.c.workers→(aac r.works w).stack.Nodup
 run:∀ t,0≤t∧t<(p.tasks.length:Int)→(aaa r.tasks t).view.phase=2→(0≤(aaa r.tasks t).view.worker∧(aaa r.tasks t).view.worker<p.c.workers)∧t∈(aac r.works (aaa r.tasks t).view.worker).stack
 rk:∃ rk,RKo r.tasks rk
section
variable {n:Nat} {p:SyP} {r:SaV} {w t:Int}
theorem TR1.mono {c:Cfg} {x:TkP} {y:TkV} (h:TR1 n c x y):TR1 (n+1) c x y:={ h with kn:=Nat.le_succ_of_le h.kn }
theorem WR1.mono {c:Cfg} {x:WkP} {y:WlV} (h:WR1 n c x y):WR1 (n+1) c x y:={ h with sn:=Nat.le_succ_of_le h.sn }
theorem QR.mono {x:CtP} {y:QuV} (h:QR n x y):QR (n+1) x y:={ h with nb:=⟨by have:=h.nb.1; omega,Nat.le_succ_of_le h.nb.2⟩ }
theorem BR.mono (h:BR n p r):BR (n+1) p r:={ h with tk:=fun i hi =>(h.tk i hi).mono,wk:=fun i hi =>(h.wk i hi).mono,qu:=h.qu.mono,of0:=⟨h.of0.1,by have:=h.of0.2; omega⟩ }
theorem aBm {α:Type} {d:α} {xs:List α} {v:α} {i j:Int} (h:0≤i∧i<(xs.length:Int)) (hj:0≤j):atL d (xs.set i.toNat v) j=if j=i then v else atL d xs j:=by
 by_cases e:j=i
 ·subst e; rw [if_pos rfl]; exact au2 h
 ·rw [if_neg e]; exact akj h.1 hj (fun h =>e h.symm)
theorem aA9 {xs:List TkP} {v:TkP} {i j:Int} (h:0≤i∧i<(xs.length:Int)) (hj:0≤j):aah (xs.set i.toNat v) j=if j=i then v else aah xs j:=aBm h hj
theorem axq {xs:List WkP} {v:WkP} {i j:Int} (h:0≤i∧i<(xs.length:Int)) (hj:0≤j):aam (xs.set i.toNat v) j=if j=i then v else aam xs j:=aBm h hj
theorem ajq {xs:List TkV} {v:TkV} {i j:Int} (h:0≤i∧i<(xs.length:Int)) (hj:0≤j):aaa (xs.set i.toNat v) j=if j=i then v else aaa xs j:=aBm h hj
theorem avg {xs:List WlV} {v:WlV} {i j:Int} (h:0≤i∧i<(xs.length:Int)) (hj:0≤j):aac (xs.set i.toNat v) j=if j=i then v else aac xs j:=aBm h hj
theorem BR.setW (h:BR n p r) (hw:0≤w∧w<p.c.workers) {x:WkP} {y:WlV} (k:WR1 n p.c x y) (hs:y.stack=(aac r.works w).stack) :
  BR n { p with works:=p.works.set w.toNat x } { r with works:=r.works.set w.toNat y }:=by
 have hp:0≤w∧w<(p.works.length:Int):=by have:=h.wl; omega
 have hr:0≤w∧w<(r.works.length:Int):=by have:=h.wl2; omega
 have hst:∀ i,0≤i→(aac (r.works.set w.toNat y) i).stack=(aac r.works i).stack:=fun i hi =>by
  rw [avg hr hi]
  split
  ·rename_i e; subst e; exact hs
  ·rfl
 exact { h with
  wl:=(congrArg (fun (n:Nat) =>(n:Int)) List.length_set).trans h.wl
  wl2:=(congrArg (fun (n:Nat) =>(n:Int)) List.length_set).trans h.wl2
  wk:=fun i hi =>by
   show WR1 n p.c (aam (p.works.set w.toNat x) i) (aac (r.works.set w.toNat y) i)
   rw [axq hp hi.1,avg hr hi.1]
   split
   ·exact k
   ·exact h.wk i hi
  cl:=by
   show (aam (p.works.set w.toNat x) p.c.workers).stack=[]∧(aam (p.works.set w.toNat x) p.c.workers).sleeps=false
   rw [axq hp (by have:=h.wl2; omega),if_neg (by omega)]
   exact h.cl
  st:=fun i hi t ht =>h.st i hi t (by rw [← hst i hi.1]; exact ht)
  nd:=fun i hi =>by
   show (aac (r.works.set w.toNat y) i).stack.Nodup
   rw [hst i hi.1]; exact h.nd i hi
  run:=fun t ht hp =>by
   have h1:=h.run t ht hp
   refine ⟨h1.1,?_⟩
   show t∈(aac (r.works.set w.toNat y) (aaa r.tasks t).view.worker).stack
   rw [hst _ h1.1.1]; exact h1.2 }
theorem BR.setC (h:BR n p r) (hw:w=p.c.workers) (h0:0≤w) {x:WkP} (k:x.stack=[]∧x.sleeps=false):BR n { p with works:=p.works.set w.toNat x } r:=by
 have hp:0≤w∧w<(p.works.length:Int):=by have:=h.wl; omega
 exact { h with
  wl:=(congrArg (fun (n:Nat) =>(n:Int)) List.length_set).trans h.wl
  wk:=fun i hi =>by
   show WR1 n p.c (aam (p.works.set w.toNat x) i) (aac r.works i)
   have hi2:i<p.c.workers:=hi.2
   rw [axq hp hi.1,if_neg (by omega)]
   exact h.wk i hi
  cl:=by
   show (aam (p.works.set w.toNat x) p.c.workers).stack=[]∧(aam (p.works.set w.toNat x) p.c.workers).sleeps=false
   rw [axq hp (by have:=h.wl2; omega),if_pos hw.symm]
   exact k }
theorem BR.setT (h:BR n p r) (ht:0≤t∧t<(p.tasks.length:Int)) {x:TkP} {y:TkV} (k:TR1 n p.c x y) (h1:y.view.phase=(aaa r.tasks t).view.phase) (h2:y.view.worker=(aaa r.tasks t).view.worker) (h3:y.view.parent=(aaa r.tasks t).view.parent) :
  BR n { p with tasks:=p.tasks.set t.toNat x } { r with tasks:=r.tasks.set t.toNat y }:=by
 have hr:0≤t∧t<(r.tasks.length:Int):=by have:=h.tl2; omega
 have e1:∀ i,0≤i→(aaa (r.tasks.set t.toNat y) i).view.phase=(aaa r.tasks i).view.phase:=fun i hi =>by
  rw [ajq hr hi]; split
  ·rename_i e; subst e; exact h1
  ·rfl
 have e2:∀ i,0≤i→(aaa (r.tasks.set t.toNat y) i).view.worker=(aaa r.tasks i).view.worker:=fun i hi =>by
  rw [ajq hr hi]; split
  ·rename_i e; subst e; exact h2
  ·rfl
 have e3:∀ i,0≤i→(aaa (r.tasks.set t.toNat y) i).view.parent=(aaa r.tasks i).view.parent:=fun i hi =>by
  rw [ajq hr hi]; split
  ·rename_i e; subst e; exact h3
  ·rfl
 exact { h with
  tl:=(congrArg (fun (n:Nat) =>(n:Int)) List.length_set).trans h.tl
  tl2:=(List.length_set ..).trans (h.tl2.trans (List.length_set ..).symm)
  tl3:=by rw [List.length_set]; exact h.tl3
  tk:=fun i hi =>by
   have hi:0≤i∧i<(p.tasks.length:Int):=by rw [List.length_set] at hi; exact hi
   show TR1 n p.c (aah (p.tasks.set t.toNat x) i) (aaa (r.tasks.set t.toNat y) i)
   rw [aA9 ht hi.1,ajq hr hi.1]
   split
   ·exact k
   ·exact h.tk i hi
  kn:=by
   show p.known=(aeq (r.tasks.set t.toNat y):Int)
   rw [apE hr h1]; exact h.kn
  st:=fun w hw i hi =>by
   obtain ⟨q1,q2,q3⟩:=h.st w hw i hi
   exact ⟨by rw [List.length_set]; exact q1,(e1 i q1.1).trans q2,(e2 i q1.1).trans q3⟩
  run:=fun i hi hp =>by
   have hi:0≤i∧i<(p.tasks.length:Int):=by rw [List.length_set] at hi; exact hi
   have h4:=h.run i hi ((e1 i hi.1).symm.trans hp)
   show (0≤(aaa (r.tasks.set t.toNat y) i).view.worker∧(aaa (r.tasks.set t.toNat y) i).view.worker<p.c.workers)∧i∈(aac r.works (aaa (r.tasks.set t.toNat y) i).view.worker).stack
   rw [e2 i hi.1]; exact h4
  rk:=by
   obtain ⟨rk,q1,q2⟩:=h.rk
   refine ⟨rk,fun i hi =>?_,fun i hi =>?_⟩
   ·have hi:0≤i∧i<(r.tasks.length:Int):=by rw [List.length_set] at hi; exact hi
    show (aaa (r.tasks.set t.toNat y) i).view.parent=-1∨((0≤(aaa (r.tasks.set t.toNat y) i).view.parent∧(aaa (r.tasks.set t.toNat y) i).view.parent<((r.tasks.set t.toNat y).length:Int))∧(aaa (r.tasks.set t.toNat y) (aaa (r.tasks.set t.toNat y) i).view.parent).view.phase≠0∧rk (aaa (r.tasks.set t.toNat y) i).view.parent<rk i)
    rw [e3 i hi.1,List.length_set]
    rcases q1 i hi with q3 | ⟨q3,q4,q5⟩
    ·exact .inl q3
    ·refine .inr ⟨q3,?_,q5⟩
     rw [e1 _ q3.1]; exact q4
   ·have hi:0≤i∧i<(r.tasks.length:Int):=by rw [List.length_set] at hi; exact hi
    show rk i<(r.tasks.set t.toNat y).length∧((aaa (r.tasks.set t.toNat y) i).view.phase≠0→rk i<aeq (r.tasks.set t.toNat y))
    rw [e1 i hi.1,List.length_set,apE hr h1]
    exact q2 i hi }
theorem BR.setQ (h:BR n p r) {x:CtP} {y:QuV} {o:Int} (k:QR n x y) (ho:0≤o∧o≤n):BR n { p with queue:=x,offers:=o } { r with queue:=y,offers:=o } :=
 { h with of:=rfl,of0:=ho,qu:=k }
end
section
variable {n:Nat} {p:SyP} {r:SaV} {w t o:Int}
theorem auI {xs:List TkV} (ht:0≤t∧t<(xs.length:Int)) {x:TkV} (h0:(aaa xs t).view.phase≠0) (h:x.view.phase≠0):aeq (xs.set t.toNat x)=aeq xs:=by
 have e:∀ l:List TkV,aeq l=(l.map fun y =>decide (y.view.phase≠0)).countP id:=fun l =>by
  unfold aeq; rw [List.countP_map]; rfl
 rw [e,e]
 have h1:decide (x.view.phase≠0)=decide ((aaa xs t).view.phase≠0):=by rw [decide_eq_true h,decide_eq_true h0]
 have:(xs.set t.toNat x).map (fun y =>decide (y.view.phase≠0))=xs.map fun y =>decide (y.view.phase≠0):=by
  rw [List.map_set,h1,← List.map_set]
  exact congrArg _ (anx (α:=TkV) (d:=(dfR 61:TkV)) ht)
 rw [this]
theorem auH:∀ {xs:List TkV} {i:Nat} {x z:TkV},xs[i]?=some z→z.view.phase=0→x.view.phase≠0→aeq (xs.set i x)=aeq xs+1∧aeq xs<xs.length
 | [],i,x,z,h,_,_ =>by simp at h
 | a::xs,0,x,z,h,h0,h1 =>by
  obtain rfl:a=z:=by simpa using h
  unfold aeq
  refine ⟨?_,?_⟩
  ·rw [List.set_cons_zero,List.countP_cons,List.countP_cons]
   simp [h0,h1]
  ·rw [List.countP_cons,List.length_cons]
   have:=List.countP_le_length (p:=fun (x:TkV) =>decide (x.view.phase≠0)) (l:=xs)
   have e:(if decide (a.view.phase≠0)=true then 1 else 0)=0:=by simp [h0]
   rw [e]; omega
 | a::xs,i+1,x,z,h,h0,h1 =>by
  have ih:=auH (xs:=xs) (i:=i) (x:=x) (z:=z) (by simpa using h) h0 h1
  unfold aeq at *
  refine ⟨?_,?_⟩
  ·rw [List.set_cons_succ,List.countP_cons,List.countP_cons,ih.1]
   omega
  ·rw [List.countP_cons,List.length_cons]
   split<;>omega
theorem azc {xs:List TkV} (ht:0≤t∧t<(xs.length:Int)) {x:TkV} (h0:(aaa xs t).view.phase=0) (h:x.view.phase≠0):aeq (xs.set t.toNat x)=aeq xs+1∧aeq xs<xs.length :=
 auH (ab2 (d:=(dfR 61:TkV)) ht) h0 h
theorem anq {s:List Int} (h:aa8 s=t) (ht:0≤t):s=aeh s++[t]:=by
 unfold aa8 at h
 have h1:¬ (s.length:Int)=0:=fun e =>by rw [if_pos e] at h; omega
 rw [if_neg h1] at h
 have h2:s.length-1<s.length:=by omega
 have h3:s[s.length-1]=t:=by
  have a1:=ab2 (α:=Int) (d:=(dfR 1:Int)) (xs:=s) (i:=(s.length:Int)-1) (by omega)
  have a2:((s.length:Int)-1).toNat=s.length-1:=by omega
  rw [a2,List.getElem?_eq_getElem h2] at a1
  exact (Option.some.inj a1).trans h
 unfold aeh
 have a2:((s.length:Int)-1).toNat=s.length-1:=by omega
 rw [a2,← h3,← List.take_succ_eq_append_getElem h2]
 exact (List.take_of_length_le (by omega)).symm
theorem BR.setR (h:BR n p r) (hw:0≤w∧w<p.c.workers) (ht:0≤t∧t<(p.tasks.length:Int)) (h0:(aaa r.tasks t).view.phase≠0) (h2:(aaa r.tasks t).view.phase≠2)
  {x:TkP} {y:TkV} (k:TR1 n p.c x y) (k1:y.view.phase=2) (k2:y.view.worker=w) (k3:y.view.parent=(aaa r.tasks t).view.parent) {X:WkP} {Y:WlV} (kw:WR1 n p.c X Y) (hs:Y.stack=(aac r.works w).stack++[t]) :
  BR n { p with tasks:=p.tasks.set t.toNat x,works:=p.works.set w.toNat X } { r with tasks:=r.tasks.set t.toNat y,works:=r.works.set w.toNat Y }:=by
 have hr:0≤t∧t<(r.tasks.length:Int):=by have:=h.tl2; omega
 have hwp:0≤w∧w<(p.works.length:Int):=by have:=h.wl; omega
 have hwr:0≤w∧w<(r.works.length:Int):=by have:=h.wl2; omega
 have nst:∀ v,0≤v∧v<p.c.workers→t ∉ (aac r.works v).stack:=fun v hv hm =>h2 (h.st v hv t hm).2.1
 have e0:∀ i,0≤i→(aaa r.tasks i).view.phase≠0→(aaa (r.tasks.set t.toNat y) i).view.phase≠0:=fun i hi hp =>by
  rw [ajq hr hi]; split
  ·rw [k1]; decide
  ·exact hp
 have e3:∀ i,0≤i→(aaa (r.tasks.set t.toNat y) i).view.parent=(aaa r.tasks i).view.parent:=fun i hi =>by
  rw [ajq hr hi]; split
  ·rename_i e; subst e; exact k3
  ·rfl
 have hc:aeq (r.tasks.set t.toNat y)=aeq r.tasks:=auI hr h0 (by rw [k1]; decide)
 exact { h with
  tl:=(congrArg (fun (n:Nat) =>(n:Int)) List.length_set).trans h.tl
  tl2:=(List.length_set ..).trans (h.tl2.trans (List.length_set ..).symm)
  tl3:=by rw [List.length_set]; exact h.tl3
  wl:=(congrArg (fun (n:Nat) =>(n:Int)) List.length_set).trans h.wl
  wl2:=(congrArg (fun (n:Nat) =>(n:Int)) List.length_set).trans h.wl2
  tk:=fun i hi =>by
   have hi:0≤i∧i<(p.tasks.length:Int):=by rw [List.length_set] at hi; exact hi
   show TR1 n p.c (aah (p.tasks.set t.toNat x) i) (aaa (r.tasks.set t.toNat y) i)
   rw [aA9 ht hi.1,ajq hr hi.1]
   split
   ·exact k
   ·exact h.tk i hi
  wk:=fun i hi =>by
   show WR1 n p.c (aam (p.works.set w.toNat X) i) (aac (r.works.set w.toNat Y) i)
   rw [axq hwp hi.1,avg hwr hi.1]
   split
   ·exact kw
   ·exact h.wk i hi
  cl:=by
   show (aam (p.works.set w.toNat X) p.c.workers).stack=[]∧(aam (p.works.set w.toNat X) p.c.workers).sleeps=false
   rw [axq hwp (by omega),if_neg (by omega)]
   exact h.cl
  kn:=by
   show p.known=(aeq (r.tasks.set t.toNat y):Int)
   rw [hc]; exact h.kn
  st:=fun v hv i hi =>by
   have hi:i∈(aac (r.works.set w.toNat Y) v).stack:=hi
   rw [avg hwr hv.1] at hi
   show (0≤i∧i<((p.tasks.set t.toNat x).length:Int))∧(aaa (r.tasks.set t.toNat y) i).view.phase=2∧(aaa (r.tasks.set t.toNat y) i).view.worker=v
   rw [List.length_set]
   have old:i∈(aac r.works v).stack→(0≤i∧i<(p.tasks.length:Int))∧(aaa (r.tasks.set t.toNat y) i).view.phase=2∧(aaa (r.tasks.set t.toNat y) i).view.worker=v:=fun hm =>by
    obtain ⟨q1,q2,q3⟩:=h.st v hv i hm
    have hne:¬ i=t:=fun e =>nst v hv (e▸hm)
    rw [ajq hr q1.1,if_neg hne]
    exact ⟨q1,q2,q3⟩
   split at hi
   ·rename_i e
    rw [hs] at hi
    rcases List.mem_append.1 hi with hi | hi
    ·exact old (by rw [e]; exact hi)
    ·obtain rfl:i=t:=List.mem_singleton.1 hi
     rw [ajq hr ht.1,if_pos rfl]
     exact ⟨ht,k1,k2.trans e.symm⟩
   ·exact old hi
  nd:=fun v hv =>by
   show (aac (r.works.set w.toNat Y) v).stack.Nodup
   rw [avg hwr hv.1]
   split
   ·rw [hs]
    refine List.nodup_append.2 ⟨h.nd w hw,List.nodup_cons.2 ⟨List.not_mem_nil,List.nodup_nil⟩,fun a ha b hb e =>?_⟩
    obtain rfl:b=t:=List.mem_singleton.1 hb
    exact nst w hw (e▸ha)
   ·exact h.nd v hv
  run:=fun i hi hp =>by
   have hi:0≤i∧i<(p.tasks.length:Int):=by rw [List.length_set] at hi; exact hi
   have hp:(aaa (r.tasks.set t.toNat y) i).view.phase=2:=hp
   show (0≤(aaa (r.tasks.set t.toNat y) i).view.worker∧(aaa (r.tasks.set t.toNat y) i).view.worker<p.c.workers)∧i∈(aac (r.works.set w.toNat Y) (aaa (r.tasks.set t.toNat y) i).view.worker).stack
   by_cases e:i=t
   ·subst e
    rw [ajq hr hi.1,if_pos rfl,k2,aeN hwr,hs]
    exact ⟨hw,List.mem_append.2 (.inr (List.mem_singleton.2 rfl))⟩
   ·rw [ajq hr hi.1,if_neg e] at hp ⊢
    obtain ⟨q1,q2⟩:=h.run i hi hp
    refine ⟨q1,?_⟩
    rw [avg hwr q1.1]
    split
    ·rename_i e2
     rw [hs,← e2]
     exact List.mem_append.2 (.inl q2)
    ·exact q2
  rk:=by
   obtain ⟨rk,q1,q2⟩:=h.rk
   refine ⟨rk,fun i hi =>?_,fun i hi =>?_⟩
   ·have hi:0≤i∧i<(r.tasks.length:Int):=by rw [List.length_set] at hi; exact hi
    show (aaa (r.tasks.set t.toNat y) i).view.parent=-1∨((0≤(aaa (r.tasks.set t.toNat y) i).view.parent∧(aaa (r.tasks.set t.toNat y) i).view.parent<((r.tasks.set t.toNat y).length:Int))∧(aaa (r.tasks.set t.toNat y) (aaa (r.tasks.set t.toNat y) i).view.parent).view.phase≠0∧rk (aaa (r.tasks.set t.toNat y) i).view.parent<rk i)
    rw [e3 i hi.1,List.length_set]
    rcases q1 i hi with q3 | ⟨q3,q4,q5⟩
    ·exact .inl q3
    ·exact .inr ⟨q3,e0 _ q3.1 q4,q5⟩
   ·have hi:0≤i∧i<(r.tasks.length:Int):=by rw [List.length_set] at hi; exact hi
    show rk i<(r.tasks.set t.toNat y).length∧((aaa (r.tasks.set t.toNat y) i).view.phase≠0→rk i<aeq (r.tasks.set t.toNat y))
    rw [List.length_set,hc]
    refine ⟨(q2 i hi).1,fun hp =>(q2 i hi).2 ?_⟩
    rw [ajq hr hi.1] at hp
    split at hp
    ·rename_i e; rw [e]; exact h0
    ·exact hp }
theorem BR.setP (h:BR n p r) (hw:0≤w∧w<p.c.workers) (ht:0≤t∧t<(p.tasks.length:Int)) (htop:aa8 (aac r.works w).stack=t)
  {x:TkP} {y:TkV} (k:TR1 n p.c x y) (k0:y.view.phase≠0) (k1:y.view.phase≠2) (k3:y.view.parent=(aaa r.tasks t).view.parent) {X:WkP} {Y:WlV} (kw:WR1 n p.c X Y) (hs:Y.stack=aeh (aac r.works w).stack) :
  BR n { p with tasks:=p.tasks.set t.toNat x,works:=p.works.set w.toNat X } { r with tasks:=r.tasks.set t.toNat y,works:=r.works.set w.toNat Y }:=by
 have hr:0≤t∧t<(r.tasks.length:Int):=by have:=h.tl2; omega
 have hwp:0≤w∧w<(p.works.length:Int):=by have:=h.wl; omega
 have hwr:0≤w∧w<(r.works.length:Int):=by have:=h.wl2; omega
 have sp:=anq htop ht.1
 have hnd:=h.nd w hw
 have htm:t∈(aac r.works w).stack:=by rw [sp]; exact List.mem_append.2 (.inr (List.mem_singleton.2 rfl))
 have tst:=h.st w hw t htm
 have h0:(aaa r.tasks t).view.phase≠0:=by rw [tst.2.1]; decide
 have nt:t ∉ aeh (aac r.works w).stack:=fun hm =>by
  rw [sp] at hnd
  exact (List.nodup_append.1 hnd).2.2 t hm t (List.mem_singleton.2 rfl) rfl
 have e0:∀ i,0≤i→(aaa r.tasks i).view.phase≠0→(aaa (r.tasks.set t.toNat y) i).view.phase≠0:=fun i hi hp =>by
  rw [ajq hr hi]; split
  ·exact k0
  ·exact hp
 have e3:∀ i,0≤i→(aaa (r.tasks.set t.toNat y) i).view.parent=(aaa r.tasks i).view.parent:=fun i hi =>by
  rw [ajq hr hi]; split
  ·rename_i e; subst e; exact k3
  ·rfl
 have hc:aeq (r.tasks.set t.toNat y)=aeq r.tasks:=auI hr h0 k0
 have sub:∀ v,0≤v∧v<p.c.workers→∀ i,i∈(aac (r.works.set w.toNat Y) v).stack→i∈(aac r.works v).stack∧¬ i=t:=fun v hv i hi =>by
  rw [avg hwr hv.1] at hi
  split at hi
  ·rename_i e
   rw [hs] at hi
   refine ⟨?_,fun e2 =>nt (e2▸hi)⟩
   rw [e,sp]; exact List.mem_append.2 (.inl hi)
  ·rename_i e
   refine ⟨hi,fun e2 =>e ?_⟩
   have:=(h.st v hv i hi).2.2
   rw [e2,tst.2.2] at this
   exact this.symm
 exact { h with
  tl:=(congrArg (fun (n:Nat) =>(n:Int)) List.length_set).trans h.tl
  tl2:=(List.length_set ..).trans (h.tl2.trans (List.length_set ..).symm)
  tl3:=by rw [List.length_set]; exact h.tl3
  wl:=(congrArg (fun (n:Nat) =>(n:Int)) List.length_set).trans h.wl
  wl2:=(congrArg (fun (n:Nat) =>(n:Int)) List.length_set).trans h.wl2
  tk:=fun i hi =>by
   have hi:0≤i∧i<(p.tasks.length:Int):=by rw [List.length_set] at hi; exact hi
   show TR1 n p.c (aah (p.tasks.set t.toNat x) i) (aaa (r.tasks.set t.toNat y) i)
   rw [aA9 ht hi.1,ajq hr hi.1]
   split
   ·exact k
   ·exact h.tk i hi
  wk:=fun i hi =>by
   show WR1 n p.c (aam (p.works.set w.toNat X) i) (aac (r.works.set w.toNat Y) i)
   rw [axq hwp hi.1,avg hwr hi.1]
   split
   ·exact kw
   ·exact h.wk i hi
  cl:=by
   show (aam (p.works.set w.toNat X) p.c.workers).stack=[]∧(aam (p.works.set w.toNat X) p.c.workers).sleeps=false
   rw [axq hwp (by omega),if_neg (by omega)]
   exact h.cl
  kn:=by
   show p.known=(aeq (r.tasks.set t.toNat y):Int)
   rw [hc]; exact h.kn
  st:=fun v hv i hi =>by
   obtain ⟨hm,hne⟩:=sub v hv i hi
   obtain ⟨q1,q2,q3⟩:=h.st v hv i hm
   show (0≤i∧i<((p.tasks.set t.toNat x).length:Int))∧(aaa (r.tasks.set t.toNat y) i).view.phase=2∧(aaa (r.tasks.set t.toNat y) i).view.worker=v
   rw [List.length_set,ajq hr q1.1,if_neg hne]
   exact ⟨q1,q2,q3⟩
  nd:=fun v hv =>by
   show (aac (r.works.set w.toNat Y) v).stack.Nodup
   rw [avg hwr hv.1]
   split
   ·rw [hs]
    rw [sp] at hnd
    exact (List.nodup_append.1 hnd).1
   ·exact h.nd v hv
  run:=fun i hi hp =>by
   have hi:0≤i∧i<(p.tasks.length:Int):=by rw [List.length_set] at hi; exact hi
   have hp:(aaa (r.tasks.set t.toNat y) i).view.phase=2:=hp
   show (0≤(aaa (r.tasks.set t.toNat y) i).view.worker∧(aaa (r.tasks.set t.toNat y) i).view.worker<p.c.workers)∧i∈(aac (r.works.set w.toNat Y) (aaa (r.tasks.set t.toNat y) i).view.worker).stack
   by_cases e:i=t
   ·subst e
    rw [ajq hr hi.1,if_pos rfl] at hp
    exact absurd hp k1
   ·rw [ajq hr hi.1,if_neg e] at hp ⊢
    obtain ⟨q1,q2⟩:=h.run i hi hp
    refine ⟨q1,?_⟩
    rw [avg hwr q1.1]
    split
    ·rename_i e2
     rw [hs]
     rw [e2,sp] at q2
     rcases List.mem_append.1 q2 with q2 | q2
     ·exact q2
     ·exact absurd (List.mem_singleton.1 q2) e
    ·exact q2
  rk:=by
   obtain ⟨rk,q1,q2⟩:=h.rk
   refine ⟨rk,fun i hi =>?_,fun i hi =>?_⟩
   ·have hi:0≤i∧i<(r.tasks.length:Int):=by rw [List.length_set] at hi; exact hi
    show (aaa (r.tasks.set t.toNat y) i).view.parent=-1∨((0≤(aaa (r.tasks.set t.toNat y) i).view.parent∧(aaa (r.tasks.set t.toNat y) i).view.parent<((r.tasks.set t.toNat y).length:Int))∧(aaa (r.tasks.set t.toNat y) (aaa (r.tasks.set t.toNat y) i).view.parent).view.phase≠0∧rk (aaa (r.tasks.set t.toNat y) i).view.parent<rk i)
    rw [e3 i hi.1,List.length_set]
    rcases q1 i hi with q3 | ⟨q3,q4,q5⟩
    ·exact .inl q3
    ·exact .inr ⟨q3,e0 _ q3.1 q4,q5⟩
   ·have hi:0≤i∧i<(r.tasks.length:Int):=by rw [List.length_set] at hi; exact hi
    show rk i<(r.tasks.set t.toNat y).length∧((aaa (r.tasks.set t.toNat y) i).view.phase≠0→rk i<aeq (r.tasks.set t.toNat y))
    rw [List.length_set,hc]
    refine ⟨(q2 i hi).1,fun hp =>(q2 i hi).2 ?_⟩
    rw [ajq hr hi.1] at hp
    split at hp
    ·rename_i e; rw [e]; exact h0
    ·exact hp }
theorem BR.setN (h:BR n p r) (ht:0≤t∧t<(p.tasks.length:Int)) (h0:(aaa r.tasks t).view.phase=0) (ho:o=-1∨(0≤o∧o<(p.tasks.length:Int))∧(aaa r.tasks o).view.phase≠0)
  {x:TkP} {y:TkV} (k:TR1 n p.c x y) (k1:y.view.phase=1) (k3:y.view.parent=o) :
  BR n { p with tasks:=p.tasks.set t.toNat x,known:=wi (p.known+1) } { r with tasks:=r.tasks.set t.toNat y }:=by
 have hr:0≤t∧t<(r.tasks.length:Int):=by have:=h.tl2; omega
 obtain ⟨hc,hlt⟩:=azc hr h0 (x:=y) (by rw [k1]; decide)
 have nst:∀ v,0≤v∧v<p.c.workers→t ∉ (aac r.works v).stack:=fun v hv hm =>by have:=(h.st v hv t hm).2.1; omega
 exact { h with
  tl:=(congrArg (fun (n:Nat) =>(n:Int)) List.length_set).trans h.tl
  tl2:=(List.length_set ..).trans (h.tl2.trans (List.length_set ..).symm)
  tl3:=by rw [List.length_set]; exact h.tl3
  tk:=fun i hi =>by
   have hi:0≤i∧i<(p.tasks.length:Int):=by rw [List.length_set] at hi; exact hi
   show TR1 n p.c (aah (p.tasks.set t.toNat x) i) (aaa (r.tasks.set t.toNat y) i)
   rw [aA9 ht hi.1,ajq hr hi.1]
   split
   ·exact k
   ·exact h.tk i hi
  kn:=by
   show wi (p.known+1)=(aeq (r.tasks.set t.toNat y):Int)
   have:=h.kn
   have:=h.tl3
   have:=h.tl2
   rw [hc,aa2 (aae (by omega))]; omega
  st:=fun v hv i hi =>by
   obtain ⟨q1,q2,q3⟩:=h.st v hv i hi
   have hne:¬ i=t:=fun e =>nst v hv (e▸hi)
   show (0≤i∧i<((p.tasks.set t.toNat x).length:Int))∧(aaa (r.tasks.set t.toNat y) i).view.phase=2∧(aaa (r.tasks.set t.toNat y) i).view.worker=v
   rw [List.length_set,ajq hr q1.1,if_neg hne]
   exact ⟨q1,q2,q3⟩
  run:=fun i hi hp =>by
   have hi:0≤i∧i<(p.tasks.length:Int):=by rw [List.length_set] at hi; exact hi
   have hp:(aaa (r.tasks.set t.toNat y) i).view.phase=2:=hp
   show (0≤(aaa (r.tasks.set t.toNat y) i).view.worker∧(aaa (r.tasks.set t.toNat y) i).view.worker<p.c.workers)∧i∈(aac r.works (aaa (r.tasks.set t.toNat y) i).view.worker).stack
   rw [ajq hr hi.1] at hp ⊢
   split at hp
   ·rw [k1] at hp; exact absurd hp (by decide)
   ·rename_i e
    rw [if_neg e]
    exact h.run i hi hp
  rk:=by
   obtain ⟨rk,q1,q2⟩:=h.rk
   have old:∀ i,0≤i∧i<(r.tasks.length:Int)→(aaa r.tasks i).view.phase≠0→¬ i=t:=fun i _ hp e =>hp (by rw [e]; exact h0)
   have ho2:o=-1∨((0≤o∧o<(r.tasks.length:Int))∧(aaa r.tasks o).view.phase≠0):=by rw [h.tl2]; exact ho
   refine ⟨fun i =>if i=t then aeq r.tasks else rk i,fun i hi =>?_,fun i hi =>?_⟩
   ·have hi:0≤i∧i<(r.tasks.length:Int):=by rw [List.length_set] at hi; exact hi
    show (aaa (r.tasks.set t.toNat y) i).view.parent=-1∨((0≤(aaa (r.tasks.set t.toNat y) i).view.parent∧(aaa (r.tasks.set t.toNat y) i).view.parent<((r.tasks.set t.toNat y).length:Int))∧(aaa (r.tasks.set t.toNat y) (aaa (r.tasks.set t.toNat y) i).view.parent).view.phase≠0∧(if (aaa (r.tasks.set t.toNat y) i).view.parent=t then aeq r.tasks else rk (aaa (r.tasks.set t.toNat y) i).view.parent)<(if i=t then aeq r.tasks else rk i))
    rw [List.length_set]
    by_cases e:i=t
    ·subst e
     rw [aep hr,k3,if_pos rfl]
     rcases ho2 with e1 | ⟨e1,e2⟩
     ·exact .inl e1
     ·have hne:=old o e1 e2
      rw [ajq hr e1.1,if_neg hne,if_neg hne]
      exact .inr ⟨e1,e2,(q2 o e1).2 e2⟩
    ·rw [ajq hr hi.1,if_neg e,if_neg e]
     rcases q1 i hi with q3 | ⟨q3,q4,q5⟩
     ·exact .inl q3
     ·have hne:=old _ q3 q4
      rw [ajq hr q3.1,if_neg hne,if_neg hne]
      exact .inr ⟨q3,q4,q5⟩
   ·have hi:0≤i∧i<(r.tasks.length:Int):=by rw [List.length_set] at hi; exact hi
    show (if i=t then aeq r.tasks else rk i)<(r.tasks.set t.toNat y).length∧((aaa (r.tasks.set t.toNat y) i).view.phase≠0→(if i=t then aeq r.tasks else rk i)<aeq (r.tasks.set t.toNat y))
    rw [List.length_set,hc]
    by_cases e:i=t
    ·rw [if_pos e]
     exact ⟨hlt,fun _ =>by omega⟩
    ·rw [if_neg e,ajq hr hi.1,if_neg e]
     exact ⟨(q2 i hi).1,fun hp =>Nat.lt_succ_of_lt ((q2 i hi).2 hp)⟩ }
end
structure VC (c:Cfg):Prop where
 pg:∀ k,0≤k∧k<(c.progs.length:Int)→(atL [] c.progs k).length≤1000000∧∀ a,0≤a→a<((atL [] c.progs k).length:Int)→((acA (atL [] c.progs k) a).op=1→0≤(acA (atL [] c.progs k) a).a∧(acA (atL [] c.progs k) a).a<(c.progs.length:Int))∧((acA (atL [] c.progs k) a).op=2→0≤(acA (atL [] c.progs k) a).a)
 sb:∀ o,0≤o∧o<(c.subs.length:Int)→0≤(acK c.subs o).prog∧(acK c.subs o).prog<(c.progs.length:Int)
 tk:1≤c.tasks
section
variable {n:Nat} {p:SyP} {r:SaV} {w t o l:Int}
theorem axe {P:List Ins} {kids:List Int}:∀ {f:Nat} {a:Int},(ahS P kids f a).2.2=true→(ahS P kids f a).2.1.op=1∨(ahS P kids f a).2.1.op=2∧chV kids (ahS P kids f a).2.1.a ≠ -1
 | 0,a,h =>by cases h
 | f+1,a,h =>by
  unfold ahS at *
  split at h
  ·rename_i h1
   rw [if_pos h1]
   split at h
   ·rename_i h2
    rw [if_pos h2]; exact .inl h2
   ·rename_i h2
    rw [if_neg h2]
    split at h
    ·rename_i h3
     rw [if_pos h3]; exact .inr h3
    ·rename_i h3
     rw [if_neg h3]; exact axe h
  ·cases h
theorem aCh {kids:List Int} {a:Int} (h:chV kids a ≠ -1):(0≤a∧a<(kids.length:Int))∧chV kids a=aaf kids a:=by
 unfold chV at *
 split at h
 ·exact absurd rfl h
 ·split at h
  ·exact absurd rfl h
  ·rename_i h1 h2
   rw [if_neg h1,if_neg h2]
   exact ⟨by omega,rfl⟩
theorem alU {c:Cfg} {x:WkP} {y:WlV} (h:WR1 n c x y):avh x.stack x.walks=alV y.stack y.walk:=by
 unfold avh alV
 rw [h.stack]
 split
 ·cases hx:x.walks with
  | true =>
   have:=(h.won hx).2.1
   exact (decide_eq_false (by omega)).symm
  | false =>exact (decide_eq_true (h.woff hx)).symm
 ·rfl
theorem WR1.lst {c:Cfg} {x:WkP} {y:WlV} {e:Ev} (h:WR1 n c x y):WR1 n c { x with last:=e } { y with last:=e }:={ h with last:=rfl }
theorem azG {c:Cfg} {x:WkP} {y:WlV} (h:WR1 n c x y) (hw:x.walks=true):(x.up ≠ -1→x.up=l)↔(0≤y.up→y.up=l):=by
 obtain ⟨_,_,_,h1,h2⟩:=h.won hw
 rw [h1]; omega
theorem BR.po (h:BR n p r) (hn:n≤1000000):PO p where
 tl:=h.tl
 wl:=h.wl
 stk w hw:=by
  have:=h.wl
  by_cases e:w=p.c.workers
  ·rw [e,h.cl.1]; exact Nat.zero_le _
  ·exact Nat.le_trans (h.wk w (by omega)).sn hn
 kid t ht:=Nat.le_trans (h.tk t ht).kn hn
 prg t ht:=(h.tk t ht).pl
 at0 t ht:=(h.tk t ht).at0
theorem BR.ro (h:BR n p r) (hn:n≤1000000):RO r where
 wl:=by rw [h.c]; exact h.wl2
 stk w hw:=by
  have:=h.wl2
  have k:=h.wk w (by omega)
  rw [← k.stack]; exact Nat.le_trans k.sn hn
 kid t ht:=by
  have:=h.tl2
  have k:=h.tk t (by omega)
  rw [← k.kids]; exact Nat.le_trans k.kn hn
 tl:=by have:=h.tl2; have:=h.tl3; omega
def StM (n:Nat) (p:SyP) (r:SaV) (e:Ev):Prop :=
 (∃ p' r',aaj p e=some ((true,()),(p',()))∧aas r e=some ((true,()),(r',()))∧BR (n+1) p' r'∧p'.c=p.c) ∨
 (∃ q q',aaj p e=some ((false,()),(q,()))∧SameV p q∧aas r e=some ((false,()),(q',())))
theorem al1 {e:Ev} {C D:Prop} {p':SyP} {r':SaV} (hp:PS p e C p') (hr:RS r e D r') (hC:C↔D) (hB:C→BR (n+1) p' r') (hc:p'.c=p.c):StM n p r e:=by
 obtain ⟨b,q,h1,h2,h3⟩:=hp
 obtain ⟨b',q',h4,h5,h6⟩:=hr
 cases b with
 | true =>
  obtain ⟨h7,rfl⟩:=h2 rfl
  cases b' with
  | true =>
   obtain ⟨h8,rfl⟩:=h5 rfl
   exact .inl ⟨_,_,h1,h4,hB h7,hc⟩
  | false =>exact absurd (hC.1 h7) (h6 rfl)
 | false =>
  obtain ⟨h7,h8⟩:=h3 rfl
  cases b' with
  | true =>exact absurd (hC.2 (h5 rfl).1) h7
  | false =>exact .inr ⟨_,_,h1,h8,h4⟩
structure EI (p:SyP) (r:SaV) (k w t o l:Int):Prop where
 hw:0≤w∧w<p.c.workers
 ht:0≤t∧t<(p.tasks.length:Int)
 hr:aal p ⟨k,w,t,o,l⟩=some ((true,()),(p,()))
 hf:aad r ⟨k,w,t,o,l⟩=some ((true,()),(r,()))
section
variable {k:Int} (hn:n≤999999) (h:BR n p r) (e:EI p r k w t o l)
include h e
theorem EI.wp:0≤w∧w<(p.works.length:Int):=by have:=h.wl; have:=e.hw; omega
theorem EI.wr:0≤w∧w<(r.works.length:Int):=by have:=h.wl2; have:=e.hw; omega
theorem EI.tr:0≤t∧t<(r.tasks.length:Int):=by have:=h.tl2; have:=e.ht; omega
end
theorem aCJ (hn:n≤999999) (h:BR n p r) (e:EI p r 12 w t o l) (hs:(aam p.works w).sleeps=false):StM n p r ⟨12,w,t,o,l⟩:=by
 have T:=h.tk t e.ht
 have W:=h.wk w e.hw
 refine al1 (aC3 (h.po (by omega)) (e.wp h) e.ht e.hr hs) (aCS (h.ro (by omega)) (e.wr h) (e.tr h) e.hf) ?_ (fun hC =>?_) rfl
 ·rw [h.c,alU W,T.ph,T.lv]
 ·exact (h.mono.setT e.ht (x:={ aah p.tasks t with lv:=l }) (y:={ aaa r.tasks t with view:={ (aaa r.tasks t).view with level:=l } }) { T.mono with lv:=rfl } rfl rfl rfl).setW e.hw W.mono.lst rfl
theorem aCH (hn:n≤999999) (h:BR n p r) (e:EI p r 14 w t o l) (ho:0≤o∧o<p.c.workers) (hs:(aam p.works w).sleeps=false):StM n p r ⟨14,w,t,o,l⟩:=by
 have T:=h.tk t e.ht
 have W:=h.wk w e.hw
 refine al1 (aC1 (h.po (by omega)) (e.wp h) e.ht e.hr hs) (aCs (h.ro (by omega)) (e.wr h) (e.tr h) e.hf) ?_ (fun hC =>?_) rfl
 ·rw [h.c,alU W,T.ph]
  exact ⟨fun ⟨a,b,c⟩ =>⟨a,b,ho,c⟩,fun ⟨a,b,_,c⟩ =>⟨a,b,c⟩⟩
 ·exact h.mono.setW e.hw W.mono.lst rfl
theorem aCG (hn:n≤999999) (h:BR n p r) (e:EI p r 15 w t o l) (hs:(aam p.works w).sleeps=false):StM n p r ⟨15,w,t,o,l⟩:=by
 have T:=h.tk t e.ht
 have W:=h.wk w e.hw
 refine al1 (aC0 (h.po (by omega)) (e.wp h) e.ht e.hr hs) (aCQ (h.ro (by omega)) (e.wr h) (e.tr h) e.hf) ?_ (fun hC =>?_) rfl
 ·rw [T.ph]
 ·exact h.mono.setW e.hw W.mono.lst rfl
theorem aCF (hn:n≤999999) (h:BR n p r) (e:EI p r 16 w t o l) (hs:(aam p.works w).sleeps=false):StM n p r ⟨16,w,t,o,l⟩:=by
 have W:=h.wk w e.hw
 refine al1 (aCZ (h.po (by omega)) (e.wp h) e.ht e.hr hs) (aCP (h.ro (by omega)) (e.wr h) (e.tr h) e.hf) ?_ (fun hC =>?_) rfl
 ·rw [alU W]
 ·exact h.mono.setW e.hw (x:={ aam p.works w with sleeps:=true,last:=⟨16,w,t,o,l⟩ }) (y:={ aac r.works w with sleeps:=true,last:=⟨16,w,t,o,l⟩ }) { W.mono with sleeps:=rfl,last:=rfl } rfl
theorem aCE (hn:n≤999999) (h:BR n p r) (e:EI p r 17 w t o l) (hs:(aam p.works w).sleeps=true):StM n p r ⟨17,w,t,o,l⟩:=by
 have W:=h.wk w e.hw
 refine al1 (aCY (h.po (by omega)) (e.wp h) e.ht e.hr hs) (aCO (h.ro (by omega)) (e.wr h) (e.tr h) e.hf) Iff.rfl (fun hC =>?_) rfl
 exact h.mono.setW e.hw (x:={ aam p.works w with sleeps:=false,last:=⟨17,w,t,o,l⟩ }) (y:={ aac r.works w with sleeps:=false,last:=⟨17,w,t,o,l⟩ }) { W.mono with sleeps:=rfl,last:=rfl } rfl
theorem aCD (hn:n≤999999) (h:BR n p r) (e:EI p r 18 w t o l) (ho:0≤o∧o<p.c.workers) (hs:(aam p.works w).sleeps=false):StM n p r ⟨18,w,t,o,l⟩:=by
 have W:=h.wk w e.hw
 refine al1 (aCu (h.po (by omega)) (e.wp h) e.ht e.hr hs) (aCr (h.ro (by omega)) (e.wr h) (e.tr h) e.hf) ?_ (fun hC =>?_) rfl
 ·rw [h.c]; exact ⟨fun _ =>ho,fun _ =>True.intro⟩
 ·exact h.mono.setW e.hw W.mono.lst rfl
theorem aCC (hn:n≤999999) (h:BR n p r) (e:EI p r 19 w t o l) (hs:(aam p.works w).sleeps=false):StM n p r ⟨19,w,t,o,l⟩:=by
 have T:=h.tk t e.ht
 have W:=h.wk w e.hw
 refine al1 (aCX (h.po (by omega)) (e.wp h) e.ht e.hr hs) (aCN (h.ro (by omega)) (e.wr h) (e.tr h) e.hf) ?_ (fun hC =>?_) rfl
 ·rw [T.ph]
 ·exact h.mono.setW e.hw W.mono.lst rfl
theorem st7 (hn:n≤999999) (h:BR n p r) (e:EI p r 7 w t o l) (hs:(aam p.works w).sleeps=false):StM n p r ⟨7,w,t,o,l⟩:=by
 have T:=h.tk t e.ht
 have W:=h.wk w e.hw
 refine al1 (pk7 (h.po (by omega)) (e.wp h) e.ht e.hr hs) (rk7 (h.ro (by omega)) (e.wr h) (e.tr h) e.hf) ?_ (fun hC =>?_) rfl
 ·cases hw:(aam p.works w).walks with
  | true =>
   obtain ⟨h1,_,h2,h3,h4⟩:=W.won hw
   rw [h1,h2,T.lv,azG W hw]
   exact ⟨fun ⟨_,a⟩ =>a,fun a =>⟨rfl,a⟩⟩
  | false =>
   have h1:=W.woff hw
   rw [h1]
   exact ⟨(fun h =>by cases h.1),(fun h =>by have:=h.1; have:=e.ht; omega)⟩
 ·exact h.mono.setW e.hw (x:={ aam p.works w with walks:=false,last:=⟨7,w,t,o,l⟩ }) (y:={ aac r.works w with walk := -1,last:=⟨7,w,t,o,l⟩ }) { W.mono with won:=(fun h =>nomatch h),woff:=fun _ =>rfl,last:=rfl } rfl
theorem aCK (hn:n≤999999) (hl0:0≤l) (h:BR n p r) (e:EI p r 11 w t o l) (hs:(aam p.works w).sleeps=false):StM n p r ⟨11,w,t,o,l⟩:=by
 have T:=h.tk t e.ht
 have W:=h.wk w e.hw
 obtain ⟨rk,k1,k2⟩:=h.rk
 have hl:=h.tl2
 have hl3:=h.tl3
 have htl:=h.tl
 have k3:∀ i,0≤i∧i<(r.tasks.length:Int)→(aaa r.tasks i).view.parent=-1∨(0≤(aaa r.tasks i).view.parent∧(aaa r.tasks i).view.parent<(r.tasks.length:Int))∧rk (aaa r.tasks i).view.parent<rk i:=fun i hi =>(k1 i hi).imp_right fun h =>⟨h.1,h.2.2⟩
 have k4:∀ i,0≤i∧i<(p.tasks.length:Int)→(aah p.tasks i).pa=-1∨(0≤(aah p.tasks i).pa∧(aah p.tasks i).pa<(p.tasks.length:Int))∧rk (aah p.tasks i).pa<rk i:=fun i hi =>by
  rw [(h.tk i hi).pa,← hl]
  exact k3 i (by omega)
 have wkP:(aam p.works w).walks=true→0≤(aam p.works w).walk∧(aam p.works w).walk<(p.tasks.length:Int):=fun hw =>by
  obtain ⟨h1,h2,_⟩:=W.won hw
  rw [h1]; omega
 have wkR:(aac r.works w).walk ≠ -1→0≤(aac r.works w).walk∧(aac r.works w).walk<(r.tasks.length:Int):=fun hne =>by
  cases hw:(aam p.works w).walks with
  | true =>have:=(W.won hw).2.1; omega
  | false =>exact absurd (W.woff hw) hne
 have hrt:=(k2 t (e.tr h)).1
 have des:∀ (x:Int) (m:Nat) (i:Int),0≤i∧i<(p.tasks.length:Int)→ar9 (fun i =>(aah p.tasks i).pa) x m i=ar9 (fun i =>(aaa r.tasks i).view.parent) x m i:=fun x m =>by
  induction m with
  | zero =>intro i _; rfl
  | succ m ih =>
   intro i hi
   unfold ar9
   rw [(h.tk i hi).pa]
   rcases k3 i (by omega) with h1 | ⟨h1,_⟩
   ·rw [if_pos h1,if_pos h1]
   ·rw [ih _ (by omega)]
 refine al1 (aC4 (h.po (by omega)) (e.wp h) e.ht wkP k4 (by omega) (by omega) e.hr hs) (aCT (h.ro (by omega)) (e.wr h) (e.tr h) wkR k3 hrt e.hf) ?_ (fun hC =>?_) rfl
 ·cases hw:(aam p.works w).walks with
  | true =>
   obtain ⟨h1,h2,_,h3,h4⟩:=W.won hw
   have h5:=(h.tk (aac r.works w).walk (by omega)).lv
   rw [h1,h5,T.lv,azG W hw,des _ _ _ e.ht,hl]
   exact ⟨fun ⟨_,a⟩ =>⟨by omega,a⟩,fun ⟨_,a⟩ =>⟨rfl,a⟩⟩
  | false =>
   have h1:=W.woff hw
   exact ⟨(fun h =>by cases h.1),(fun h =>absurd h1 h.1)⟩
 ·obtain ⟨h1,h2,h3,h4,h5⟩:=W.won hC.1
  exact (h.mono.setT e.ht (x:={ aah p.tasks t with lv:=l }) (y:={ aaa r.tasks t with view:={ (aaa r.tasks t).view with level:=l } }) { T.mono with lv:=rfl } rfl rfl rfl).setW e.hw (x:={ aam p.works w with up:=l,last:=⟨11,w,t,o,l⟩ }) (y:={ aac r.works w with up:=l,last:=⟨11,w,t,o,l⟩ }) { W.mono with won:=fun hx =>⟨h1,h2,h3,rfl,by show -1≤l; omega⟩,last:=rfl } rfl
end
section
variable {n:Nat} {p:SyP} {r:SaV} {w t o l:Int}
theorem akE {c:Cfg} {x:TkP} {y:TkV} (T:TR1 n c x y):prT x=prR x.prog y:=by
 unfold prT prR; rw [T.kids,T.pc]
theorem BR.top (h:BR n p r) (hw:0≤w∧w<p.c.workers) (htop:aa8 (aac r.works w).stack=t) (ht:0≤t):(0≤t∧t<(p.tasks.length:Int))∧(aaa r.tasks t).view.phase=2∧(aaa r.tasks t).view.worker=w:=by
 refine h.st w hw t ?_
 rw [anq htop ht]
 exact List.mem_append.2 (.inr (List.mem_singleton.2 rfl))
theorem BR.rp (hv:VC p.c) (h:BR n p r) (hw:0≤w∧w<p.c.workers) (ht:0≤t) (htop:aa8 (aac r.works w).stack=t):RP r t (aah p.tasks t).prog:=by
 obtain ⟨h1,h2,_⟩:=h.top hw htop ht
 have T:=h.tk t h1
 obtain ⟨h3,h4⟩:=T.prog (by rw [T.ph,h2]; decide)
 have h5:=hv.pg _ h3
 exact { p0:=(by rw [h.c]; exact h3),pe:=(by rw [h.c]; exact h4.symm),pc:=(by rw [← T.pc]; exact T.at0),pl:=T.pl,ja:=fun a a0 a1 a2 =>(by rw [h4] at a1 a2 ⊢; exact (h5.2 a a0 a1).2 a2) }
theorem ama {c:Cfg} {x:TkP} {y:TkV} (T:TR1 n c x y) (hb:(prT x).2.2=true):wi ((prT x).1+1)=(prT x).1+1∧0≤(prT x).1∧(prT x).1<(x.prog.length:Int)∧(prT x).2.1=acA x.prog (prT x).1:=by
 have h:=akD (kids:=x.kids) T.at0.1 T.at0.2
 have hb:(an1 x.prog x.kids x.at_).2.2=true:=hb
 have h2:=h.2 hb
 have:=T.pl
 have:=T.at0
 have h3:x.at_≤(prT x).1:=h.1.1
 have h4:(prT x).1<(x.prog.length:Int):=h2.1
 exact ⟨aa2 (aae (by omega)),by omega,h4,h2.2⟩
theorem aq7 {c:Cfg} {x:TkP} {y:TkV} (T:TR1 n c x y) (hb:(prT x).2.2=true):0≤wi ((prT x).1+1)∧wi ((prT x).1+1)≤(x.prog.length:Int):=by
 obtain ⟨a1,a2,a3,_⟩:=ama T hb
 rw [a1]; omega
theorem ap8 {xs:List Int} {a:Int} (h:xs.length≤n):(xs++[a]).length≤n+1:=by
 rw [List.length_append]; exact Nat.add_le_add_right h 1
theorem ajn {P:List Ins} {y:TkV} (hb:(prR P y).2.2=true) (h2:(prR P y).2.1.op=2):(0≤(prR P y).2.1.a∧(prR P y).2.1.a<(y.kids.length:Int))∧chV y.kids (prR P y).2.1.a=aaf y.kids (prR P y).2.1.a:=by
 have hb:(ahS P y.kids (P.length+1) y.pc).2.2=true:=hb
 rcases axe hb with h | h
 ·have h2:(ahS P y.kids (P.length+1) y.pc).2.1.op=2:=h2
  omega
 ·exact aCh h.2
theorem WR1.push {c:Cfg} {x:WkP} {y:WlV} {e:Ev} (W:WR1 n c x y):WR1 (n+1) c { x with stack:=x.stack++[t],last:=e } { y with stack:=y.stack++[t],last:=e } :=
 { W with stack:=(by show x.stack++[t]=y.stack++[t]; rw [W.stack]),sn:=(by show (x.stack++[t]).length≤n+1; rw [List.length_append]; exact Nat.add_le_add_right W.sn 1),last:=rfl }
theorem WR1.pop {c:Cfg} {x:WkP} {y:WlV} {e:Ev} (W:WR1 n c x y):WR1 (n+1) c { x with stack:=aeh x.stack,last:=e } { y with stack:=ae9 y.stack,last:=e } :=
 { W with stack:=(by show aeh x.stack=aeh y.stack; rw [W.stack]),sn:=(by show (aeh x.stack).length≤n+1; unfold aeh; rw [List.length_take]; have:=W.sn; omega),last:=rfl }
theorem TR1.run {c:Cfg} {x:TkP} {y:TkV} (T:TR1 n c x y) (h0:x.ph≠0):TR1 (n+1) c { x with ph:=2,wt := -1 } { y with view:={ y.view with phase:=2,worker:=w,other := -1 } } :=
 { T.mono with ph:=rfl,wt:=rfl,prog:=fun _ =>T.prog h0,ot:=fun _ =>rfl,wr:=(fun h =>by cases h),wk:=fun h =>absurd rfl h }
theorem st5 (hn:n≤999999) (h:BR n p r) (e:EI p r 5 w t o l) (hs:(aam p.works w).sleeps=false):StM n p r ⟨5,w,t,o,l⟩:=by
 have T:=h.tk t e.ht
 have W:=h.wk w e.hw
 refine al1 (pk5 (h.po (by omega)) (e.wp h) e.ht e.hr hs) (rk5 (h.ro (by omega)) (e.wr h) (e.tr h) e.hf) ?_ (fun hC =>?_) rfl
 ·rw [alU W,T.ph,W.last]
 ·have h1:=hC.1
  have h2:=T.ph
  exact h.mono.setR e.hw e.ht (by omega) (by omega) (T.run (by omega)) rfl rfl rfl W.push rfl
theorem st9 (hn:n≤999999) (h:BR n p r) (e:EI p r 9 w t o l) (hs:(aam p.works w).sleeps=false):StM n p r ⟨9,w,t,o,l⟩:=by
 have T:=h.tk t e.ht
 have W:=h.wk w e.hw
 have hl:=h.tl2
 have hl2:=h.tl
 have wr:(aah p.tasks t).ph=3→0≤(aah p.tasks t).wt∧(aah p.tasks t).wt<(p.tasks.length:Int):=fun h3 =>by have:=T.wr h3; omega
 refine al1 (pk9 (h.po (by omega)) (e.wp h) e.ht wr e.hr hs) (rk9 (h.ro (by omega)) (e.wr h) (e.tr h) (fun h3 =>by rw [← T.wt,hl]; exact wr (T.ph.trans h3)) e.hf) ?_ (fun hC =>?_) rfl
 ·rw [alU W,W.last,← T.wt,← T.ph]
  refine ⟨fun ⟨h1,h2⟩ =>⟨h1,?_⟩,fun ⟨h1,h2⟩ =>⟨h1,?_⟩⟩
  ·rw [← (h.tk _ (wr h1)).ph]; exact h2
  ·rw [(h.tk _ (wr h1)).ph]; exact h2
 ·have h1:=hC.1
  have h2:=T.ph
  exact h.mono.setR e.hw e.ht (by omega) (by omega) (T.run (by omega)) rfl rfl rfl W.push rfl
theorem aCL (hv:VC p.c) (hn:n≤999999) (h:BR n p r) (e:EI p r 10 w t o l) (hs:(aam p.works w).sleeps=false):StM n p r ⟨10,w,t,o,l⟩:=by
 have T:=h.tk t e.ht
 have W:=h.wk w e.hw
 refine al1 (aC5 (h.po (by omega)) (e.wp h) e.ht e.hr hs) (aCU (h.ro (by omega)) (e.wr h) (e.tr h) (h.rp hv e.hw e.ht.1) e.hf) ?_ (fun hC =>?_) rfl
 ·rw [W.stack,akE T]
 ·have htop:aa8 (aac r.works w).stack=t:=by rw [← W.stack]; exact hC.1
  obtain ⟨_,h2,_⟩:=h.top e.hw htop e.ht.1
  have h3:=T.ph
  refine h.mono.setP e.hw e.ht htop (x:={ aah p.tasks t with at_:=(prT (aah p.tasks t)).1,ph:=4 }) (y:={ aaa r.tasks t with pc:=(prR (aah p.tasks t).prog (aaa r.tasks t)).1,view:={ (aaa r.tasks t).view with phase:=4,worker := -1 } }) ?_ (show (4:Int)≠0 by decide) (show (4:Int)≠2 by decide) rfl W.pop rfl
  exact { T.mono with ph:=rfl,pc:=congrArg (fun v =>v.1) (akE T),at0:=⟨Int.le_trans T.at0.1 (akD T.at0.1 T.at0.2).1.1,(akD T.at0.1 T.at0.2).1.2⟩,prog:=fun _ =>T.prog (by omega),ot:=fun _ =>T.ot (by omega),wr:=(fun h =>by cases h),wk:=fun _ =>rfl }
theorem st8 (hv:VC p.c) (hn:n≤999999) (h:BR n p r) (e:EI p r 8 w t o l) (ho:0≤o∧o<(p.tasks.length:Int)) (hs:(aam p.works w).sleeps=false):StM n p r ⟨8,w,t,o,l⟩:=by
 have T:=h.tk t e.ht
 have W:=h.wk w e.hw
 have O:=h.tk o ho
 have hl:=h.tl2
 refine al1 (pk8 (h.po (by omega)) (e.wp h) e.ht ho e.hr hs) (rk8 (P:=(aah p.tasks t).prog) (h.ro (by omega)) (e.wr h) (e.tr h) (by omega) (fun P _ _ hb h2 =>(ajn hb h2).1) (h.rp hv e.hw e.ht.1) e.hf) ?_ (fun hC =>?_) rfl
 ·rw [W.stack,akE T,T.kids,O.ph]
  exact ⟨fun ⟨a,b,c,d,f⟩ =>⟨a,b,c,(ajn b c).2.symm.trans d,f⟩,fun ⟨a,b,c,d,f⟩ =>⟨a,b,c,(ajn b c).2.trans d,f⟩⟩
 ·obtain ⟨a1,a2,a3,_⟩:=ama T hC.2.1
  refine (h.mono.setT e.ht (x:={ aah p.tasks t with at_:=wi ((prT (aah p.tasks t)).1+1) }) (y:={ aaa r.tasks t with pc:=wi ((prR (aah p.tasks t).prog (aaa r.tasks t)).1+1) }) ?_ rfl rfl rfl).setW e.hw W.mono.lst rfl
  exact { T.mono with pc:=congrArg (fun v =>wi (v.1+1)) (akE T),at0:=aq7 T hC.2.1 }
theorem st6 (hv:VC p.c) (hn:n≤999999) (h:BR n p r) (e:EI p r 6 w t o l) (ho:0≤o∧o<(p.tasks.length:Int)) (hs:(aam p.works w).sleeps=false):StM n p r ⟨6,w,t,o,l⟩:=by
 have T:=h.tk t e.ht
 have W:=h.wk w e.hw
 have O:=h.tk o ho
 have hl:=h.tl2
 have htl:=h.tl
 refine al1 (pk6 (h.po (by omega)) (e.wp h) e.ht ho e.hr hs) (rk6 (P:=(aah p.tasks t).prog) (h.ro (by omega)) (e.wr h) (e.tr h) (by omega) (fun P _ _ hb h2 =>(ajn hb h2).1) (h.rp hv e.hw e.ht.1) e.hf) ?_ (fun hC =>?_) rfl
 ·rw [W.stack,akE T,T.kids,O.ph]
  exact ⟨fun ⟨a,b,c,d,f⟩ =>⟨a,b,c,(ajn b c).2.symm.trans d,f⟩,fun ⟨a,b,c,d,f⟩ =>⟨a,b,c,(ajn b c).2.trans d,f⟩⟩
 ·obtain ⟨a1,a2,a3,_⟩:=ama T hC.2.1
  have htop:aa8 (aac r.works w).stack=t:=by rw [← W.stack]; exact hC.1
  obtain ⟨_,h2,_⟩:=h.top e.hw htop e.ht.1
  have h3:=T.ph
  have ht:=e.ht
  refine h.mono.setP e.hw e.ht htop (x:={ aah p.tasks t with at_:=wi ((prT (aah p.tasks t)).1+1),ph:=3,wt:=o }) (y:={ aaa r.tasks t with pc:=wi ((prR (aah p.tasks t).prog (aaa r.tasks t)).1+1),view:={ (aaa r.tasks t).view with phase:=3,worker := -1,other:=o } }) ?_ (show (3:Int)≠0 by decide) (show (3:Int)≠2 by decide) rfl
   (X:=⟨aeh (aam p.works w).stack,true,t,(aah p.tasks t).lv,-1,(aam p.works w).sleeps,⟨6,w,t,o,l⟩⟩) (Y:={ aac r.works w with stack:=ae9 (aac r.works w).stack,walk:=t,low:=(aaa r.tasks t).view.level,up := -1,last:=⟨6,w,t,o,l⟩ }) ?_ rfl
  ·exact { T.mono with ph:=rfl,wt:=rfl,pc:=congrArg (fun v =>wi (v.1+1)) (akE T),at0:=aq7 T hC.2.1,prog:=fun _ =>T.prog (by omega),ot:=fun h =>absurd rfl h,wr:=fun _ =>by show 0≤o∧o<p.c.tasks; omega,wk:=fun _ =>rfl }
  ·have Q:=W.pop (e:=⟨6,w,t,o,l⟩)
   exact { stack:=Q.stack,sn:=Q.sn,sleeps:=W.sleeps,last:=rfl,won:=fun _ =>⟨rfl,(by show 0≤t∧t<p.c.tasks; omega),T.lv,rfl,Int.le_refl _⟩,woff:=(fun h =>nomatch h) }
theorem st4 (hv:VC p.c) (hn:n≤999999) (h:BR n p r) (e:EI p r 4 w t o l) (hs:(aam p.works w).sleeps=false):StM n p r ⟨4,w,t,o,l⟩:=by
 have T:=h.tk t e.ht
 have W:=h.wk w e.hw
 refine al1 (pk4 (h.po (by omega)) (e.wp h) e.ht e.hr hs) (rk4 (P:=(aah p.tasks t).prog) (h.ro (by omega)) (e.wr h) (e.tr h) (h.rp hv e.hw e.ht.1) e.hf) ?_ (fun hC =>?_) rfl
 ·rw [W.stack,akE T,h.c,h.kn]
  exact ⟨fun ⟨a,b,c,d⟩ =>⟨a,c,d,b⟩,fun ⟨a,b,c,d⟩ =>⟨a,d,b,c⟩⟩
 ·obtain ⟨a1,a2,a3,_⟩:=ama T hC.2.2.1
  refine (h.mono.setT e.ht (x:={ aah p.tasks t with at_:=wi ((prT (aah p.tasks t)).1+1),kids:=(aah p.tasks t).kids++[-1] }) (y:={ aaa r.tasks t with pc:=wi ((prR (aah p.tasks t).prog (aaa r.tasks t)).1+1),kids:=(aaa r.tasks t).kids++[-1] }) ?_ rfl rfl rfl).setW e.hw W.mono.lst rfl
  exact { T.mono with pc:=congrArg (fun v =>wi (v.1+1)) (akE T),at0:=aq7 T hC.2.2.1,kids:=by show _++_=_++_; rw [T.kids],kn:=ap8 T.kn }
theorem st3 (hv:VC p.c) (hn:n≤999999) (h:BR n p r) (e:EI p r 3 w t o l) (ho:0≤o∧o<(p.tasks.length:Int)) (hs:(aam p.works w).sleeps=false):StM n p r ⟨3,w,t,o,l⟩:=by
 have T:=h.tk t e.ht
 have W:=h.wk w e.hw
 have O:=h.tk o ho
 have hl:=h.tl2
 have rp:=h.rp hv e.hw ho.1
 have hi:aa8 (aam p.works w).stack=o→(prT (aah p.tasks o)).2.2=true→(prT (aah p.tasks o)).2.1.op=1→(0≤(prT (aah p.tasks o)).2.1.a∧(prT (aah p.tasks o)).2.1.a<(p.c.progs.length:Int)):=fun htp hb h1 =>by
  rw [W.stack] at htp
  obtain ⟨_,h2,_⟩:=h.top e.hw htp ho.1
  obtain ⟨a1,a2,a3,a4⟩:=ama O hb
  obtain ⟨h3,h4⟩:=O.prog (by rw [O.ph,h2]; decide)
  rw [a4] at h1 ⊢
  rw [h4] at h1 a3 ⊢
  exact ((hv.pg _ h3).2 _ a2 a3).1 h1
 refine al1 (pk3 (h.po (by omega)) (e.wp h) e.ht ho hi e.hr hs) (rk3 (P:=(aah p.tasks o).prog) (h.ro (by omega)) (e.wr h) (e.tr h) (by omega) (fun htp =>by rw [(h.top e.hw htp ho.1).2.1]; decide) rp e.hf) ?_ (fun hC =>?_) rfl
 ·rw [W.stack,akE O,T.ph]
  exact ⟨fun ⟨a,b,c,d,f⟩ =>⟨a,c,d,f,b⟩,fun ⟨a,b,c,d,f⟩ =>⟨a,f,b,c,d⟩⟩
 ·obtain ⟨c1,c2,c3,c4,c5⟩:=hC
  obtain ⟨a1,a2,a3,a4⟩:=ama O c3
  have htp:aa8 (aac r.works w).stack=o:=by rw [← W.stack]; exact c1
  obtain ⟨_,h2,_⟩:=h.top e.hw htp ho.1
  have hin:=hi c1 c3 c4
  have hne:¬ t=o:=fun e2 =>by rw [e2,O.ph,h2] at c2; exact absurd c2 (by decide)
  have B1:=h.mono.setT ho (x:={ aah p.tasks o with at_:=wi ((prT (aah p.tasks o)).1+1),kids:=(aah p.tasks o).kids++[t] }) (y:={ aaa r.tasks o with pc:=wi ((prR (aah p.tasks o).prog (aaa r.tasks o)).1+1),kids:=(aaa r.tasks o).kids++[t] })
   { O.mono with pc:=congrArg (fun v =>wi (v.1+1)) (akE O),at0:=aq7 O c3,kids:=by show _++_=_++_; rw [O.kids],kn:=ap8 O.kn } rfl rfl rfl
  have ht2:0≤t∧t<((p.tasks.set o.toNat { aah p.tasks o with at_:=wi ((prT (aah p.tasks o)).1+1),kids:=(aah p.tasks o).kids++[t] }).length:Int):=by rw [List.length_set]; exact e.ht
  have ho2:0≤o∧o<((p.tasks.set o.toNat { aah p.tasks o with at_:=wi ((prT (aah p.tasks o)).1+1),kids:=(aah p.tasks o).kids++[t] }).length:Int):=by rw [List.length_set]; exact ho
  have hor:0≤o∧o<(r.tasks.length:Int):=by omega
  refine (B1.setN (o:=o) (x:=⟨1,l,o,atL [] p.c.progs (prT (aah p.tasks o)).2.1.a,0,[],-1⟩) (y:=⟨⟨1,l,o,-1,-1⟩,(prR (aah p.tasks o).prog (aaa r.tasks o)).2.1.a,0,[]⟩) ht2 ?_ (.inr ⟨ho2,?_⟩) ?_ rfl rfl).setW e.hw W.mono.lst rfl
  ·show (aaa (r.tasks.set o.toNat _) t).view.phase=0
   rw [ajq hor e.ht.1,if_neg hne,← T.ph]; exact c2
  ·show (aaa (r.tasks.set o.toNat _) o).view.phase≠0
   rw [aep hor]
   show (aaa r.tasks o).view.phase≠0
   rw [h2]; decide
  ·exact { ph:=rfl,lv:=rfl,pa:=rfl,wt:=rfl,pc:=rfl,kids:=rfl,kn:=Nat.zero_le _,at0:=⟨Int.le_refl _,Int.natCast_nonneg _⟩,prog:=fun _ =>by rw [← akE O]; exact ⟨hin,rfl⟩,pl:=(hv.pg _ hin).1,ot:=fun _ =>rfl,wr:=(fun h =>by cases h),wk:=fun _ =>rfl }
end
section
variable {n:Nat} {p:SyP} {r:SaV} {w t o l:Int}
theorem ang {ks:List KyV} {i:Nat} (h:i<ks.length):aeA ks (i:Int)=ks[i]:=by
 have a1:=ab2 (α:=KyV) (d:=(dfR 68:KyV)) (xs:=ks) (i:=(i:Int)) ⟨by omega,by omega⟩
 rw [Int.toNat_natCast,List.getElem?_eq_getElem h] at a1
 exact (Option.some.inj a1).symm
theorem azj {ks:List KyV} {i:Nat} (h:i<ks.length):abi ks (i:Int)=ks[i]:=by
 have a1:=ab2 (α:=KyV) (d:=(dfR 63:KyV)) (xs:=ks) (i:=(i:Int)) ⟨by omega,by omega⟩
 rw [Int.toNat_natCast,List.getElem?_eq_getElem h] at a1
 exact (Option.some.inj a1).symm
theorem Srt.pw {ks:List KyV} {m:Int} (h:Srt ks m):ks.Pairwise leK∧∀ a∈ks,a.arrival<m:=by
 refine ⟨List.pairwise_iff_getElem.2 fun i j hi hj hij =>?_,fun a ha =>?_⟩
 ·have:=h.s i j hij hj
  rw [ang hi,ang hj] at this
  exact this
 ·obtain ⟨i,hi,rfl⟩:=List.getElem_of_mem ha
  have:=h.a i hi
  rw [ang hi] at this
  exact this
theorem Srt.of {ks:List KyV} {m:Int} (h1:ks.Pairwise leK) (h2:∀ a∈ks,a.arrival<m):Srt ks m where
 s i j hij hj:=by
  rw [ang (by omega),ang hj]
  exact List.pairwise_iff_getElem.1 h1 i j (by omega) hj hij
 a i hi:=by
  rw [ang hi]; exact h2 _ (List.getElem_mem hi)
theorem ato {x:CtP} {y:QuV} {i:Nat} (h:QR n x y) (h0:0<x.keys.length) (hi:i<y.keys.length) (hm:∀ j:Nat,j<y.keys.length→¬ leK (abi y.keys (j:Int)) (abi y.keys (i:Int))):y.keys[i]=x.keys[0]:=by
 have ha:y.keys[i]∈x.keys:=h.pm.mem_iff.2 (List.getElem_mem hi)
 obtain ⟨m,hm1,hm2⟩:=List.getElem_of_mem ha
 by_cases e:m=0
 ·subst e; exact hm2.symm
 ·exfalso
  have hb:x.keys[0]∈y.keys:=h.pm.mem_iff.1 (List.getElem_mem h0)
  obtain ⟨j,hj1,hj2⟩:=List.getElem_of_mem hb
  have k:=hm j hj1
  rw [azj hj1,azj hi,hj2,← hm2] at k
  exact k (List.pairwise_iff_getElem.1 h.s.pw.1 0 m h0 hm1 (by omega))
theorem aCI (hn:n≤999999) (h:BR n p r) (e:EI p r 13 w t o l) (hs:(aam p.works w).sleeps=false):StM n p r ⟨13,w,t,o,l⟩:=by
 have W:=h.wk w e.hw
 have Q:=h.qu
 have hl:=Q.pm.length_eq
 have nb:=Q.nb
 obtain ⟨i,h1,h2⟩:=aCR (h.ro (by omega)) (e.wr h) (by omega) e.hf
 refine al1 (aC2 (h.po (by omega)) (e.wp h) e.ht e.hr hs) h2 ?_ (fun hC =>?_) rfl
 ·rw [alU W,hl]
  refine and_congr_right fun _ =>and_congr_right fun h3 =>?_
  obtain ⟨h4,h5⟩:=h1 h3
  have h6:=ato Q (by omega) h4 h5
  rw [azj h4,h6]
  have:aeA p.queue.keys 0=p.queue.keys[0]:=ang (i:=0) (by omega)
  rw [this]
 ·have h3:0<r.queue.keys.length:=by rw [← hl]; exact hC.2.1
  obtain ⟨h4,h5⟩:=h1 h3
  have h6:=ato Q (by omega) h4 h5
  refine (h.mono.setW e.hw (W.mono.lst (e:=⟨13,w,t,o,l⟩)) rfl).setQ (x:=⟨p.queue.keys.drop 1,p.queue.count⟩) (y:=⟨r.queue.keys.take i++r.queue.keys.drop (i+1),r.queue.count⟩) (o:=p.offers) ?_ ⟨h.of0.1,by have:=h.of0.2; omega⟩ |> fun B =>by
   have e1:({ r with works:=r.works.set w.toNat { aac r.works w with last:=⟨13,w,t,o,l⟩ },queue:=⟨r.queue.keys.take i++r.queue.keys.drop (i+1),r.queue.count⟩ }:SaV)={ r with works:=r.works.set w.toNat { aac r.works w with last:=⟨13,w,t,o,l⟩ },queue:=⟨r.queue.keys.take i++r.queue.keys.drop (i+1),r.queue.count⟩,offers:=p.offers }:=by rw [← h.of]
   rw [e1]; exact B
  obtain ⟨p1,p2⟩:=Q.s.pw
  have e1:p.queue.keys=p.queue.keys[0]'(by omega)::p.queue.keys.drop 1:=by
   rw [← List.drop_eq_getElem_cons (i:=0) (by omega),List.drop_zero]
  have e2:r.queue.keys=r.queue.keys.take i++r.queue.keys[i]::r.queue.keys.drop (i+1):=by
   rw [← List.drop_eq_getElem_cons h4,List.take_append_drop]
  refine { s:=Srt.of (List.Pairwise.sublist (List.drop_sublist 1 _) p1) (fun a ha =>p2 a ((List.drop_sublist 1 _).mem ha)),c:=Q.c,pm:=?_,nb:=⟨by show 0≤p.queue.count∧p.queue.count≤((n+1:Nat):Int); omega,by show (p.queue.keys.drop 1).length≤n+1; rw [List.length_drop]; omega⟩ }
  have pm:List.Perm p.queue.keys r.queue.keys:=Q.pm
  rw [e1,e2,h6] at pm
  exact (pm.trans List.perm_middle).cons_inv
theorem st2 (hn:n≤999999) (h:BR n p r) (hw:w=p.c.workers) (ht:0≤t∧t<(p.tasks.length:Int))
  (hr:aal p ⟨2,w,t,o,l⟩=some ((true,()),(p,()))) (hf:aad r ⟨2,w,t,o,l⟩=some ((true,()),(r,()))) (hs:(aam p.works w).sleeps=false):StM n p r ⟨2,w,t,o,l⟩:=by
 have hwl:=h.wl
 have hwl2:=h.wl2
 have hl:=h.qu.pm.length_eq
 have h0:=h.of0
 refine al1 (pk2 (h.po (by omega)) (by omega) ht hr hs) (rk2 (h.ro (by omega)) hf) ?_ (fun hC =>?_) rfl
 ·rw [h.c,h.of,← h.kn,hl]
  exact ⟨fun h =>⟨hw,h⟩,fun h =>h.2⟩
 ·have e1:wi (p.offers+1)=p.offers+1:=aa2 (aae (by omega))
  have e2:wi (r.offers+1)=p.offers+1:=by rw [h.of,e1]
  rw [e1,e2]
  have hcl:(aam p.works w).stack=[]:=by rw [hw]; exact h.cl.1
  exact (h.mono.setC hw (by omega) (x:={ aam p.works w with last:=⟨2,w,t,o,l⟩ }) ⟨hcl,hs⟩).setQ h.mono.qu ⟨by omega,by omega⟩
theorem st1 (hv:VC p.c) (hn:n≤999999) (h:BR n p r) (hw:w=p.c.workers) (ht:0≤t∧t<(p.tasks.length:Int))
  (hr:aal p ⟨1,w,t,o,l⟩=some ((true,()),(p,()))) (hf:aad r ⟨1,w,t,o,l⟩=some ((true,()),(r,()))) (hs:(aam p.works w).sleeps=false):StM n p r ⟨1,w,t,o,l⟩:=by
 have hwl:=h.wl
 have hwl2:=h.wl2
 have Q:=h.qu
 have nb:=Q.nb
 have hl:=Q.pm.length_eq
 have h0:=h.of0
 have htl:=h.tl2
 have T:=h.tk t ht
 by_cases ho:o=p.offers
 ·have hsub:0≤o∧o<(p.c.subs.length:Int)→0≤(acK p.c.subs o).prog∧(acK p.c.subs o).prog<(p.c.progs.length:Int):=fun hh =>hv.sb o hh
  obtain ⟨i,i1,i2,i3⟩:=pk1 (h.po (by omega)) (by omega) ht h0.1 hsub Q.s (by omega) hr hs
  refine al1 i3 (rk1 (by omega) (by rw [h.of]; exact h0.1) (by omega) hf) ?_ (fun hC =>?_) rfl
  ·rw [h.c,h.of,hl,T.ph]
   exact ⟨fun h =>⟨hw,h⟩,fun h =>h.2⟩
  ·obtain ⟨c1,c2,c3,c4,c5⟩:=hC
   obtain ⟨i4,i5⟩:=i2 ⟨c1,c2⟩ c5
   have e1:wi (p.offers+1)=p.offers+1:=aa2 (aae (by omega))
   have e2:wi (r.offers+1)=p.offers+1:=by rw [h.of,e1]
   have e3:wi (p.queue.count+1)=p.queue.count+1:=aa2 (aae (by omega))
   have hcl:(aam p.works w).stack=[]:=by rw [hw]; exact h.cl.1
   have hsub:=hsub ⟨by omega,c2⟩
   rw [h.c,e1,e2,e3,← Q.c,e3]
   have B:=((h.mono.setN (o := -1) ht (by rw [← T.ph]; exact c4) (.inl rfl) (x:=⟨1,l,-1,atL [] p.c.progs (acK p.c.subs o).prog,0,[],-1⟩) (y:=⟨⟨1,l,-1,-1,-1⟩,(acK p.c.subs o).prog,0,[]⟩)
    { ph:=rfl,lv:=rfl,pa:=rfl,wt:=rfl,pc:=rfl,kids:=rfl,kn:=Nat.zero_le _,at0:=⟨Int.le_refl _,Int.natCast_nonneg _⟩,prog:=fun _ =>⟨hsub,rfl⟩,pl:=(hv.pg _ hsub).1,ot:=fun _ =>rfl,wr:=(fun h =>by cases h),wk:=fun _ =>rfl } rfl rfl).setC hw (by omega) (x:={ aam p.works w with last:=⟨1,w,t,o,l⟩ }) ⟨hcl,hs⟩).setQ (o:=p.offers+1)
    (x:=⟨p.queue.keys.take i++[⟨(acK p.c.subs o).deadline,p.queue.count,t⟩]++p.queue.keys.drop i,p.queue.count+1⟩) (y:=⟨r.queue.keys++[⟨(acK p.c.subs o).deadline,p.queue.count,t⟩],p.queue.count+1⟩) ?_ ⟨by omega,by omega⟩
   ·rw [← h.c] at B ⊢
    exact B
   obtain ⟨p1,p2⟩:=Q.s.pw
   generalize hk:(⟨(acK p.c.subs o).deadline,p.queue.count,t⟩:KyV)=k
   have k1:k.arrival=p.queue.count:=by rw [← hk]
   have k2:k.deadline=(acK p.c.subs o).deadline:=by rw [← hk]
   have q1:∀ a∈p.queue.keys.take i,leK a k:=fun a ha =>by
    obtain ⟨j,hj,rfl⟩:=List.getElem_of_mem ha
    rw [List.length_take] at hj
    have:=i4 j (by omega)
    rw [ang (by omega)] at this
    rw [List.getElem_take]
    have h3:=p2 _ (List.getElem_mem (show j<p.queue.keys.length by omega))
    unfold leK; omega
   have q2:∀ a∈p.queue.keys.drop i,leK k a:=fun a ha =>by
    obtain ⟨j,hj,rfl⟩:=List.getElem_of_mem ha
    rw [List.length_drop] at hj
    have:=i5 (i+j) (by omega) (by omega)
    rw [ang (by omega)] at this
    rw [List.getElem_drop]
    unfold leK; omega
   have hsp:p.queue.keys.take i++p.queue.keys.drop i=p.queue.keys:=List.take_append_drop ..
   have p3:=p1
   rw [← hsp,List.pairwise_append] at p3
   refine { s:=Srt.of ?_ ?_,c:=rfl,pm:=?_,nb:=⟨by show 0≤p.queue.count+1∧p.queue.count+1≤((n+1:Nat):Int); omega,?_⟩ }
   ·show (p.queue.keys.take i++[k]++p.queue.keys.drop i).Pairwise leK
    rw [List.append_assoc,List.pairwise_append]
    refine ⟨p3.1,List.pairwise_cons.2 ⟨q2,p3.2.1⟩,fun a ha b hb =>?_⟩
    rcases List.mem_cons.1 hb with rfl | hb
    ·exact q1 a ha
    ·exact p3.2.2 a ha b hb
   ·intro a ha
    have ha:a∈p.queue.keys.take i++[k]++p.queue.keys.drop i:=ha
    rcases List.mem_append.1 ha with ha | ha
    ·rcases List.mem_append.1 ha with ha | ha
     ·have:=p2 a (List.mem_of_mem_take ha); show a.arrival<p.queue.count+1; omega
     ·obtain rfl:=List.mem_singleton.1 ha; show a.arrival<p.queue.count+1; omega
    ·have:=p2 a (List.mem_of_mem_drop ha); show a.arrival<p.queue.count+1; omega
   ·show List.Perm (p.queue.keys.take i++[k]++p.queue.keys.drop i) (r.queue.keys++[k])
    refine List.Perm.trans ?_ (List.Perm.append_right [k] Q.pm)
    rw [List.append_assoc]
    show List.Perm (p.queue.keys.take i++k::p.queue.keys.drop i) (p.queue.keys++[k])
    refine List.perm_middle.trans ?_
    rw [hsp]
    exact (List.perm_append_singleton k p.queue.keys).symm
   ·show (p.queue.keys.take i++[k]++p.queue.keys.drop i).length≤n+1
    rw [List.length_append,List.length_append,List.length_take,List.length_drop,List.length_singleton]; omega
 ·have h0':r.offers=p.offers:=h.of
  obtain ⟨i,i1,i2,b,q,i3,i4,i5⟩:=pk1 (p:=p) (w:=w) (t:=t) (o:=o) (l:=l) (h.po (by omega)) (by omega) ht h0.1 (fun hh =>hv.sb o hh) Q.s (by omega) hr hs
  obtain ⟨b',q',j3,j4,j5⟩:=rk1 (r:=r) (w:=w) (t:=t) (o:=o) (l:=l) (by omega) (by rw [h.of]; exact h0.1) (by omega) hf
  cases b with
  | true =>exact absurd (i4 rfl).1.1 ho
  | false =>
   cases b' with
   | true =>exact absurd (h0'▸(j4 rfl).1.2.1) ho
   | false =>exact .inr ⟨_,_,i3,(i5 rfl).2,j3⟩
end
end
end Go.Proofs.YtkmkhldmflebkaaGreat
