/- What the reference's functions answer is what was said plainly,2. What the reference's functions answer is what was said plainly,3. What the reference's functions answer is what was said plainly,4. What always holds of the reference's machines,1: lines. No program occurs here. What always holds of the reference's machines,2: frames,their stack,a step. -/
import Derived.Test.YtkmkhldmflebkaaGreatCzak
set_option linter.all false
namespace Go.Proofs.YtkmkhldmflebkaaGreat
section
open Go
theorem apU {rs:List RecV} {t:Int} {r:RecV} (h:0≤t∧t<(rs.length:Int)):aat (rs.set t.toNat r) t=r:=by
 have:t.toNat<rs.length:=by omega
 simp [aat,atL,this]
 rfl
section
variable {e:EnvV} {f:FrV}
structure LOk (f:FrV):Prop where
 ne:f.l≠[]
 le:f.l.length≤999999999
theorem LOk.n (h:LOk f):wi (((f.l.length:Nat):Int)-1)=((f.l.length-1:Nat):Int):=by
 have h1:=List.length_pos_iff.2 h.ne
 have h2:=h.le
 rw [aa2 (aae (by omega))]; omega
theorem LOk.a (h:LOk f):aaf f.l ((f.l.length-1:Nat):Int)=aa7 f.l:=by
 have h1:=List.length_pos_iff.2 h.ne
 simp only [aaf,atL,aa7,Int.toNat_natCast,List.getLast?_eq_getElem?]
 rfl
theorem LOk.g (h:LOk f):(0≤((f.l.length-1:Nat):Int)∧((f.l.length-1:Nat):Int)<((f.l.length:Nat):Int))=True:=by
 have h1:=List.length_pos_iff.2 h.ne
 exact eq_true ⟨by omega,by omega⟩
theorem LOk.g2 (h:LOk f):(0≤((f.l.length-1:Nat):Int)∧((f.l.length-1:Nat):Int)≤((f.l.length:Nat):Int))=True:=by
 have h1:=List.length_pos_iff.2 h.ne
 exact eq_true ⟨by omega,by omega⟩
theorem LOk.t (h:LOk f):f.l.take (((f.l.length-1:Nat):Int)).toNat=f.l.dropLast:=by
 rw [List.dropLast_eq_take]; simp
theorem awn (h:LOk f):aew f=some (((ad4 e f).1,()),((ad4 e f).2.2,()))∧(ad4 e f).2.1=e:=by
 unfold aew ad4
 have h1:=List.length_pos_iff.2 h.ne
 have h2:=h.le
 simp only [h.n,h.g2,h.t,if_true,List.length_dropLast]
 by_cases hl:f.l.length=1
 ·rw [if_pos (by omega),if_pos hl]; exact ⟨rfl,rfl⟩
 ·rw [if_neg (by omega),if_neg hl]; exact ⟨rfl,rfl⟩
theorem leave_eq' (h:LOk f):aew f=some (((ad4 e f).1,()),((ad4 e f).2.2,())):=(awn h).1
theorem atZ (e:EnvV) (f:FrV):(ad4 e f).2.1=e:=by unfold ad4; split<;>rfl
theorem ag4 (h:LOk f) (e:EnvV):((aew f).bind fun r =>some ((r.1.1,()),(e,r.2.1,())))=some (aek (ad4 e f)):=by
 rw [leave_eq' (e:=e) h]
 simp only [Option.bind_some,aek]
 rw [atZ]
theorem aul (h:LOk f) (hE:Fit e) (t:Int):aj5 e f t=some (aek (aig e f t)):=by
 unfold aj5 aig
 have hn:∀ x,LOk { f with n:=x }:=fun x =>⟨h.ne,h.le⟩
 simp only [abw,abA,abb,abd,abB,aba,abc,aaD,aaH,abe,aaY,abS,aa3,abC,aaV,aa4,ab0,abf,abn,Option.bind_some,if_true,abF,ag4 h,ag4 (hn _),ado,agn hE,agm hE,EnvV.hit,EnvV.ac,EnvV.rd]
 by_cases h17:f.line=17
 ·rw [if_pos h17,if_pos h17]; rfl
 rw [if_neg h17,if_neg h17]
 by_cases h18:f.line=18
 ·rw [if_pos h18,if_pos h18]
  split<;>(rename_i hh; simp only [hh,if_true,if_false,Bool.false_eq_true]; try rfl)
 rw [if_neg h18,if_neg h18]
 by_cases hT:acm e (wi (wu ((acc e.m 1 (aa0 e.c t 2) 0 0).1.1-1)))
 ·have t1:=hT.1
  have t2:=hT.2.1
  have t3:=hT.2.2
  simp only [hT,t1,t2,t3,not_true,if_true,if_false]; rfl
 ·rw [if_neg hT]
  unfold acm at hT
  repeat' split
  all_goals first | rfl | omega
theorem auL (hi:0≤f.i) (hE:Fit e):acg e f=some (aek (ajv e f)):=by
 unfold acg ajv
 by_cases h:(e.c.subs.length:Int)≤f.i
 ·rw [if_pos h,if_pos h]; rfl
 ·rw [if_neg h,if_neg h]
  have hg:(0≤f.i∧f.i<(e.c.subs.length:Int)):=⟨hi,by omega⟩
  simp only [hg,and_self,if_true,abw,abA,abb,abd,abB,aba,abc,aaD,aaH,abe,aaY,abS,aa3,abC,aaV,aa4,ab0,abf,abn,Option.bind_some,if_true,abF,aek,go,fin,EnvV.ac,EnvV.rd,EnvV.hit,EnvV.em,szV,acB,acP,adh,acx,aeI,EnvV.put,EnvV.rc,ad5,EnvV.sub,ado,agn hE,agm hE]
  repeat' split
  all_goals first | rfl | omega | (simp_all (config:={ maxSteps:=400000 }) [w2,w3,w4,w5,w6,w7,w8,w9]; done) | (simp_all (config:={ maxSteps:=400000 }) [w2,w3,w4,w5,w6,w7,w8,w9]; omega)
def aBr (e:EnvV) (f:FrV):Prop:=0≤aa7 f.l∧aa7 f.l<(e.recs.length:Int)
def ann (e:EnvV) (t:Int):Prop:=(0≤(e.rc t).prog∧(e.rc t).prog<(e.c.progs.length:Int))∧0≤(e.rc t).pc∧(e.rc t).pc<((e.prog t).length:Int)
theorem ann.prog {t:Int} (h:ann e t):e.prog t=atL [] e.c.progs (e.rc t).prog:=by
 unfold EnvV.prog
 rw [if_neg (by have:=h.1; omega)]
theorem azP (h:LOk f) (hT:f.line≠23→aBr e f) (hE:Fit e) (hp:f.line=3→ann e (aa7 f.l)):af5 e f=some (aek (ax0 e f)):=by
 unfold af5 ax0
 simp only [h.n,h.a,h.g,if_true]
 by_cases h23:f.line=23
 ·rw [if_pos h23,if_pos h23]; rfl
 rw [if_neg h23,if_neg h23]
 have ht:0≤aa7 f.l∧aa7 f.l<(e.recs.length:Int):=hT h23
 simp only [apZ ht,ht,and_self,if_true,abw,abA,abb,abd,abB,aba,abc,aaD,aaH,abe,aaY,abS,aa3,abC,aaV,aa4,ab0,abf,abn,Option.bind_some,if_true,abF,ado,agn hE,agm hE]
 by_cases h3:f.line=3
 ·obtain ⟨p1,p2⟩:=hp h3
  rw [(hp h3).prog] at p2
  have hi:e.ins (aa7 f.l)=acA (atL [] e.c.progs (e.rc (aa7 f.l)).prog) (e.rc (aa7 f.l)).pc:=by unfold EnvV.ins; rw [(hp h3).prog]
  simp only [EnvV.rc] at p1 p2 hi
  have q1:¬ (aat e.recs (aa7 f.l)).prog<0:=by omega
  have q2:¬ ((e.c.progs.length:Nat):Int)≤(aat e.recs (aa7 f.l)).prog:=by omega
  simp only [h3,show ¬ ((3:Int)=2) by decide,if_false,if_true,apU ht,List.set_set,q1,q2,p1,p2,and_self,hi,aek,go,fin,EnvV.ac,EnvV.rd,EnvV.hit,EnvV.em,szV,acB,acP,adh,acx,aeI,EnvV.put,EnvV.rc,ad5,EnvV.sub,aza]
  repeat' split
  all_goals first | rfl | (simp_all; done) | omega
 by_cases h2:f.line=2
 ·simp only [h2,if_true]; rfl
 by_cases h4:f.line=4
 ·simp only [h4,show ¬ ((4:Int)=2) by decide,show ¬ ((4:Int)=3) by decide,if_true,if_false]; rfl
 by_cases h10:f.line=10
 ·simp only [h10,show ¬ ((10:Int)=2) by decide,show ¬ ((10:Int)=3) by decide,show ¬ ((10:Int)=4) by decide,if_true,if_false,apU ht,List.set_set]; rfl
 simp only [if_neg h2,if_neg h3,if_neg h4,if_neg h10]
 by_cases h11:f.line=11
 ·simp only [h11,if_true]; rfl
 by_cases h12:f.line=12
 ·simp only [h12,show ¬ ((12:Int)=11) by decide,if_true,if_false]
  simp only [aek,go,fin,EnvV.ac,EnvV.rd,EnvV.hit,EnvV.em,szV,acB,acP,adh,acx,aeI,EnvV.put,EnvV.rc,ad5,EnvV.sub]
  split<;>(rename_i hh; simp only [hh,if_true,if_false,Bool.false_eq_true])
 by_cases h13:f.line=13
 ·simp only [h13,show ¬ ((13:Int)=11) by decide,show ¬ ((13:Int)=12) by decide,if_true,if_false]; rfl
 by_cases h15:f.line=15
 ·simp only [h15,show ¬ ((15:Int)=11) by decide,show ¬ ((15:Int)=12) by decide,show ¬ ((15:Int)=13) by decide,if_true,if_false]; rfl
 by_cases h16:f.line=16
 ·simp only [h16,show ¬ ((16:Int)=11) by decide,show ¬ ((16:Int)=12) by decide,show ¬ ((16:Int)=13) by decide,show ¬ ((16:Int)=15) by decide,if_true,if_false]; rfl
 simp only [if_neg h11,if_neg h12,if_neg h13,if_neg h15,if_neg h16,aul h hE,Option.bind_some]; try rfl
theorem aAI (hc:CfgOk e.c) {t:Int} (h1:ann e t) (h2:(e.ins t).op≠0) (h3:(e.ins t).op≠1):0≤(e.ins t).a:=by
 obtain ⟨p1,p2⟩:=h1
 have hp:=ann.prog ⟨p1,p2⟩
 have m1:e.prog t∈e.c.progs:=by rw [hp]; exact List.mem_of_getElem? (ab2 p1)
 have m2:e.ins t∈e.prog t:=List.mem_of_getElem? (ab2 (d:=dfR 3) p2)
 exact (hc.ins _ m1 _ m2).2.2 h2 h3
theorem auP (h:LOk f) (hr:(e.recs.length:Int)=e.c.tasks) (hc:CfgOk e.c):aj6 e f=some ((()),(e,afH e f,())):=by
 unfold aj6 afH
 by_cases h1:f.line≠1
 ·rw [if_pos h1,if_pos h1]
 have h1:f.line=1:=by simpa using h1
 simp only [h1,ne_eq,not_true,if_false,h.n,h.a,h.g,if_true]
 by_cases hT:¬ acm e (aa7 f.l)
 ·rw [if_pos hT]
  unfold acm at hT
  by_cases a1:0≤aa7 f.l
  ·by_cases a2:aa7 f.l<e.c.tasks
   ·rw [if_pos a1,if_pos a2,if_pos (fun a3 =>hT ⟨a1,a2,a3⟩)]
   ·rw [if_pos a1,if_neg a2]
  ·rw [if_neg a1]
 have hT:acm e (aa7 f.l):=by simpa using hT
 have t1:=hT.1
 have t2:=hT.2.1
 have t3:=hT.2.2
 have ht7:0≤aa7 f.l∧aa7 f.l<(e.recs.length:Int):=⟨t1,t3⟩
 have w7:ws7 e.recs (aa7 f.l)=e.recs:=apZ ht7
 have w8:e.recs.set (aa7 f.l).toNat (aat e.recs (aa7 f.l))=e.recs:=w7
 simp only [w7,w8,hT,t1,t2,t3,not_true,if_true,if_false,and_self]
 by_cases hp:(aat e.recs (aa7 f.l)).prog<0
 ·have e0:e.prog (aa7 f.l)=[]:=by unfold EnvV.prog EnvV.rc; rw [if_pos (.inl hp)]
  simp only [hp,if_true,e0,EnvV.rc,List.length_nil]
  repeat' split
  all_goals first | rfl | omega | (simp_all; omega)
 by_cases hp2:((e.c.progs.length:Nat):Int)≤(aat e.recs (aa7 f.l)).prog
 ·have e0:e.prog (aa7 f.l)=[]:=by unfold EnvV.prog EnvV.rc; rw [if_pos (.inr hp2)]
  simp only [hp,hp2,if_true,if_false,e0,EnvV.rc,List.length_nil]
  repeat' split
  all_goals first | rfl | omega | (simp_all; omega)
 have e0:e.prog (aa7 f.l)=atL [] e.c.progs (aat e.recs (aa7 f.l)).prog:=by unfold EnvV.prog EnvV.rc; rw [if_neg (by omega)]
 have hp3:0≤(aat e.recs (aa7 f.l)).prog∧(aat e.recs (aa7 f.l)).prog<(e.c.progs.length:Int):=by omega
 have ha:=aAI (t:=aa7 f.l) hc
 unfold ann at ha
 simp only [EnvV.ins,e0,EnvV.rc] at ha
 simp only [hp,hp2,hp3,if_true,if_false,and_self,EnvV.ins,e0,EnvV.rc]
 by_cases hw:(aat e.recs (aa7 f.l)).waiting ≠ -1
 ·rw [if_pos hw,if_pos hw]
 have hw:(aat e.recs (aa7 f.l)).waiting=-1:=by simpa using hw
 simp only [hw,not_true,if_false]
 by_cases hpc:(aat e.recs (aa7 f.l)).pc<0∨(((atL [] e.c.progs (aat e.recs (aa7 f.l)).prog).length:Nat):Int)≤(aat e.recs (aa7 f.l)).pc
 ·rw [if_pos hpc]
  by_cases a1:(aat e.recs (aa7 f.l)).pc<0
  ·rw [if_pos a1]
  ·rw [if_neg a1,if_pos (by omega)]
 have hpc2:0≤(aat e.recs (aa7 f.l)).pc∧(aat e.recs (aa7 f.l)).pc<(((atL [] e.c.progs (aat e.recs (aa7 f.l)).prog).length:Nat):Int):=by omega
 have hpc3:¬ (aat e.recs (aa7 f.l)).pc<0:=by omega
 have hpc4:¬ (((atL [] e.c.progs (aat e.recs (aa7 f.l)).prog).length:Nat):Int)≤(aat e.recs (aa7 f.l)).pc:=by omega
 rw [if_neg hpc]
 simp only [hpc2,hpc3,hpc4,if_true,if_false,and_self]
 by_cases o0:(acA (atL [] e.c.progs (aat e.recs (aa7 f.l)).prog) (aat e.recs (aa7 f.l)).pc).op=0
 ·rw [if_pos o0,if_pos o0]
 by_cases o1:(acA (atL [] e.c.progs (aat e.recs (aa7 f.l)).prog) (aat e.recs (aa7 f.l)).pc).op=1
 ·rw [if_neg o0,if_neg o0,if_pos o1,if_pos o1]
 have ha1:=ha ⟨hp3,hpc2⟩ o0 o1
 rw [if_neg o0,if_neg o0,if_neg o1,if_neg o1]
 repeat' split
 all_goals first | rfl | omega | (simp_all; done) | (simp_all; omega)
theorem apy (h:LOk f) (hr:(e.recs.length:Int)=e.c.tasks) (hc:CfgOk e.c):ahh e f=some ((((azq (afH e f)).getD (frK 0),(azq (afH e f)).isSome,())),(e,afH e f,())):=by
 unfold ahh
 rw [auP h hr hc]
 simp only [Option.bind_some]
 generalize afH e f=g
 unfold azq
 repeat' split
 all_goals first | rfl | omega | (simp_all; done) | (simp_all; omega)
theorem am5:afs f=some ((((aot f).getD (frK 0),(aot f).isSome,())),(f,())):=by
 unfold afs aot
 repeat' split
 all_goals rfl
theorem alh:aeJ e f=some (((amd e (af1 e f),true,())),(e,af1 e f,())):=by
 unfold aeJ af1 amd
 simp only [abw,abA,abb,abd,abB,aba,abc,aaD,aaH,abe,aaY,abS,aa3,abC,aaV,aa4,ab0,abf,abn,Option.bind_some,if_true,abF,ahg]
 by_cases h1:f.line=1
 ·by_cases ha:e.c.age=0
  ·simp only [h1,ha,and_self,if_true]; rfl
  ·simp only [h1,ha,and_false,if_false,if_true]; rfl
 ·simp only [h1,false_and,if_false]
  repeat' split
  all_goals first | rfl | omega
theorem ali (hi:0≤f.i):aeK e f=some ((((ak4 e f).getD (frK 0),(ak4 e f).isSome,())),(e,f,())):=by
 unfold aeK ak4
 by_cases h:(e.c.subs.length:Int)≤f.i
 ·rw [if_pos h,if_pos h]; rfl
 ·have hg:(0≤f.i∧f.i<(e.c.subs.length:Int)):=⟨hi,by omega⟩
  rw [if_neg h,if_neg h]
  simp only [hg,and_self,if_true,EnvV.sub]
  repeat' split
  all_goals rfl
end
theorem aqY {w a:Int} {F:(Int×Int×Unit→Option (Int×Int×Unit))→Int×Int×Unit→Option (Int×Int×Unit)}
  (hF:F=fun self x =>if x.2.1<w then (if x.2.1≠a then self (wi (x.1+1),wi (x.2.1+1),()) else self (x.1,wi (x.2.1+1),())) else some (x.1,x.2.1,())) (hw:w≤64) :
  ∀ (k i:Nat),(i:Int)≤w→w-i<k→0≤alj a i∧alj a i≤i→lpF F k (alj a i,(i:Int),())=some (alj a w.toNat,w,())
 | 0,i,h1,h2,_ =>by omega
 | k+1,i,h1,h2,h3 =>by
  rw [ab1,congrFun (congrFun hF _) _]
  by_cases h:(i:Int)<w
  ·have e1:wi ((i:Int)+1)=((i+1:Nat):Int):=by rw [aa2 (aae (by omega))]; omega
   have e2:wi (alj a i+1)=alj a i+1:=aa2 (aae (by omega))
   simp only [h,if_true,e1,e2]
   have ih:=aqY hF hw k (i+1) (by omega) (by omega)
   by_cases hv:(i:Int)≠a
   ·rw [if_pos hv]
    have e3:alj a (i+1)=alj a i+1:=by simp only [alj]; rw [if_pos hv]
    rw [← e3]; exact ih (by rw [e3]; omega)
   ·rw [if_neg hv]
    have e3:alj a (i+1)=alj a i:=by simp only [alj]; rw [if_neg hv]
    rw [← e3]; exact ih (by rw [e3]; omega)
  ·simp only [h,if_false]
   rw [show w.toNat=i by omega,show w=(i:Int) by omega]
theorem akN {w a t:Int} {F:(Bool×Int×Unit→Option (Bool×Int×Unit))→Bool×Int×Unit→Option (Bool×Int×Unit)}
  (hF:F=fun self x =>if x.2.1<w then (if x.1=true then self (true,wi (x.2.1+1),()) else self (decide (¬ Int.tmod (wi (t+x.2.1)) w=a),wi (x.2.1+1),())) else some (x.1,x.2.1,())) (h0:1≤w) (hw:w≤64) :
  ∀ (n k:Nat) (b:Bool) (i:Int),0≤i→i≤100→(w-i).toNat=n→n<k→∃ j,lpF F k (b,i,())=some (b || atY w a t n i,j,())
 | 0,k+1,b,i,_,_,hn,_ =>by
  refine ⟨i,?_⟩
  rw [ab1,congrFun (congrFun hF _) _]
  simp only [show ¬ i<w by omega,if_false,atY,Bool.or_false]
 | n+1,k+1,b,i,hi,hi2,hn,hk =>by
  have e1:wi (i+1)=i+1:=aa2 (aae (by omega))
  cases b with
  | true =>
   obtain ⟨j,hj⟩:=akN hF h0 hw n k true (i+1) (by omega) (by omega) (by omega) (by omega)
   refine ⟨j,?_⟩
   rw [ab1,congrFun (congrFun hF _) _]
   simp only [show i<w by omega,if_true,e1,hj,Bool.true_or]
  | false =>
   obtain ⟨j,hj⟩:=akN hF h0 hw n k (decide (Int.tmod (wi (t+i)) w≠a)) (i+1) (by omega) (by omega) (by omega) (by omega)
   refine ⟨j,?_⟩
   rw [ab1,congrFun (congrFun hF _) _]
   simp only [show i<w by omega,if_true,e1,Bool.false_eq_true,if_false]
   simp only [ne_eq] at hj
   rw [hj]
   simp only [atY,Bool.false_or,ne_eq]
section
variable {e:EnvV} {f:FrV}
theorem awm {w a t i:Int} {β:Type} {F:(Bool×Int×Unit→Option (Bool×Int×Unit))→Bool×Int×Unit→Option (Bool×Int×Unit)}
  (hF:F=fun self x =>if x.2.1<w then (if x.1=true then self (true,wi (x.2.1+1),()) else self (decide (¬ Int.tmod (wi (t+x.2.1)) w=a),wi (x.2.1+1),())) else some (x.1,x.2.1,())) (h0:1≤w) (hw:w≤64) (hi:0≤i) (hi2:i≤100) (A B:Option β) :
  ((lpF F 18446744073709551616 (false,i,())).bind fun z =>if z.1=true then A else B)=if ayA w a t i=true then A else B:=by
 obtain ⟨j,hj⟩:=akN hF h0 hw (w-i).toNat 18446744073709551616 false i hi hi2 rfl (by omega)
 rw [hj]
 simp only [Option.bind_some,Bool.false_or]
 rfl
theorem azb {w a:Int} {β:Type} {F:(Int×Int×Unit→Option (Int×Int×Unit))→Int×Int×Unit→Option (Int×Int×Unit)}
  (hF:F=fun self x =>if x.2.1<w then (if x.2.1≠a then self (wi (x.1+1),wi (x.2.1+1),()) else self (x.1,wi (x.2.1+1),())) else some (x.1,x.2.1,())) (h0:0≤w) (hw:w≤64) (A B:Option β) :
  ((lpF F 18446744073709551616 (0,0,())).bind fun z =>if z.1=0 then A else B)=if alj a w.toNat=0 then A else B:=by
 have:=aqY hF hw 18446744073709551616 0 (by omega) (by omega) ⟨by simp [alj],by simp [alj]⟩
 simp only [alj] at this
 rw [show ((0:Nat):Int)=0 from rfl] at this
 rw [this]
 rfl
theorem av4 (hc:CfgOk e.c) (hi:0≤f.i∧f.i≤e.c.workers):acU e f=some (aek (ajP e f)):=by
 have w1:=hc.w1
 have w2:=hc.w2
 have hn:e.c.workers≠0:=by omega
 have e1:wi (f.i+1)=f.i+1:=aa2 (aae (by omega))
 have e2:wi (f.i+1+1)=f.i+1+1:=aa2 (aae (by omega))
 have lu:∀ (t i:Int) (A B:Option ((ResV×Unit)×(EnvV×FrV×Unit))),0≤i→i≤100→_:=fun t i A B h1 h2 =>awm (w:=e.c.workers) (a:=f.a) (t:=t) rfl w1 w2 h1 h2 A B
 have cu:∀ (A B:Option ((ResV×Unit)×(EnvV×FrV×Unit))),_:=fun A B =>azb (w:=e.c.workers) (a:=f.a) rfl (by omega) w2 A B
 have i1:0≤f.i+1∧f.i+1≤100:=by omega
 have i2:0≤f.i+1+1∧f.i+1+1≤100:=by omega
 unfold acU ajP
 simp only [abw,abA,abb,abd,abB,aba,abc,aaD,aaH,abe,aaY,abS,aa3,abC,aaV,aa4,ab0,abf,abn,Option.bind_some,if_true,abF,hn,ne_eq,not_false_iff,e1,e2]
 by_cases h1:f.line=1
 ·rw [if_pos h1]
  have hb:ahT e f={ f with line:=2,j := -1,n := -1,t:=acy e.draw e.c.workers }:=by unfold ahT; rw [if_pos h1]
  rw [hb]
  refine (cu _ _).trans ?_
  unfold ajO
  by_cases hk:alj f.a e.c.workers.toNat=0
  ·simp only [hk,if_true]; rfl
  simp only [hk,if_false]
  by_cases hv:Int.tmod (wi (acy e.draw e.c.workers+f.i)) e.c.workers=f.a
  ·have hI:adM e { f with line:=2,j := -1,n := -1,t:=acy e.draw e.c.workers }=f.i+1:=by unfold adM; rw [if_pos hv,e1]
   simp only [hv,if_true]
   by_cases hh:-1<aif (acc e.m 1 (abX e.c (Int.tmod (wi (acy e.draw e.c.workers+(f.i+1))) e.c.workers)) 0 0).1.1
   ·rw [if_pos hh]
    refine (lu _ _ _ _ i2.1 i2.2).trans ?_
    have hF:acJ e { f with line:=2,j := -1,n := -1,t:=acy e.draw e.c.workers }={ ({ f with line:=2,j := -1,n := -1,t:=acy e.draw e.c.workers }:FrV) with i:=wi (f.i+1+1),j:=Int.tmod (wi (acy e.draw e.c.workers+(f.i+1))) e.c.workers,n:=aif (e.ld (abX e.c (Int.tmod (wi (acy e.draw e.c.workers+(f.i+1))) e.c.workers))) }:=by unfold acJ agX adC; rw [hI]; exact if_pos hh
    rw [hF]
    unfold adC
    rw [hI]
    simp only [e2]
    repeat' split
    all_goals rfl
   ·rw [if_neg hh]
    refine (lu _ _ _ _ i2.1 i2.2).trans ?_
    have hF:acJ e { f with line:=2,j := -1,n := -1,t:=acy e.draw e.c.workers }={ ({ f with line:=2,j := -1,n := -1,t:=acy e.draw e.c.workers }:FrV) with i:=wi (f.i+1+1) }:=by unfold acJ agX adC; rw [hI]; exact if_neg hh
    rw [hF]
    unfold adC
    rw [hI]
    simp only [e2]
    repeat' split
    all_goals first | rfl | (exfalso; omega)
  ·have hI:adM e { f with line:=2,j := -1,n := -1,t:=acy e.draw e.c.workers }=f.i:=by unfold adM; rw [if_neg hv]
   simp only [hv,if_false]
   by_cases hh:-1<aif (acc e.m 1 (abX e.c (Int.tmod (wi (acy e.draw e.c.workers+f.i)) e.c.workers)) 0 0).1.1
   ·rw [if_pos hh]
    refine (lu _ _ _ _ i1.1 i1.2).trans ?_
    have hF:acJ e { f with line:=2,j := -1,n := -1,t:=acy e.draw e.c.workers }={ ({ f with line:=2,j := -1,n := -1,t:=acy e.draw e.c.workers }:FrV) with i:=wi (f.i+1),j:=Int.tmod (wi (acy e.draw e.c.workers+f.i)) e.c.workers,n:=aif (e.ld (abX e.c (Int.tmod (wi (acy e.draw e.c.workers+f.i)) e.c.workers))) }:=by unfold acJ agX adC; rw [hI]; exact if_pos hh
    rw [hF]
    unfold adC
    rw [hI]
    simp only [e1]
    repeat' split
    all_goals rfl
   ·rw [if_neg hh]
    refine (lu _ _ _ _ i1.1 i1.2).trans ?_
    have hF:acJ e { f with line:=2,j := -1,n := -1,t:=acy e.draw e.c.workers }={ ({ f with line:=2,j := -1,n := -1,t:=acy e.draw e.c.workers }:FrV) with i:=wi (f.i+1) }:=by unfold acJ agX adC; rw [hI]; exact if_neg hh
    rw [hF]
    unfold adC
    rw [hI]
    simp only [e1]
    repeat' split
    all_goals first | rfl | (exfalso; omega)
 ·rw [if_neg h1]
  have hb:ahT e f=f:=by unfold ahT; rw [if_neg h1]
  rw [hb]
  refine (cu _ _).trans ?_
  unfold ajO
  by_cases hk:alj f.a e.c.workers.toNat=0
  ·simp only [hk,if_true]; rfl
  simp only [hk,if_false]
  by_cases hv:Int.tmod (wi (f.t+f.i)) e.c.workers=f.a
  ·have hI:adM e f=f.i+1:=by unfold adM; rw [if_pos hv,e1]
   simp only [hv,if_true]
   by_cases hh:f.n<aif (acc e.m 1 (abX e.c (Int.tmod (wi (f.t+(f.i+1))) e.c.workers)) 0 0).1.1
   ·rw [if_pos hh]
    refine (lu _ _ _ _ i2.1 i2.2).trans ?_
    have hF:acJ e f={ f with i:=wi (f.i+1+1),j:=Int.tmod (wi (f.t+(f.i+1))) e.c.workers,n:=aif (e.ld (abX e.c (Int.tmod (wi (f.t+(f.i+1))) e.c.workers))) }:=by unfold acJ agX adC; rw [hI]; exact if_pos hh
    rw [hF]
    unfold adC
    rw [hI]
    simp only [e2]
    repeat' split
    all_goals rfl
   ·rw [if_neg hh]
    refine (lu _ _ _ _ i2.1 i2.2).trans ?_
    have hF:acJ e f={ f with i:=wi (f.i+1+1) }:=by unfold acJ agX adC; rw [hI]; exact if_neg hh
    rw [hF]
    unfold adC
    rw [hI]
    simp only [e2]
    repeat' split
    all_goals rfl
  ·have hI:adM e f=f.i:=by unfold adM; rw [if_neg hv]
   simp only [hv,if_false]
   by_cases hh:f.n<aif (acc e.m 1 (abX e.c (Int.tmod (wi (f.t+f.i)) e.c.workers)) 0 0).1.1
   ·rw [if_pos hh]
    refine (lu _ _ _ _ i1.1 i1.2).trans ?_
    have hF:acJ e f={ f with i:=wi (f.i+1),j:=Int.tmod (wi (f.t+f.i)) e.c.workers,n:=aif (e.ld (abX e.c (Int.tmod (wi (f.t+f.i)) e.c.workers))) }:=by unfold acJ agX adC; rw [hI]; exact if_pos hh
    rw [hF]
    unfold adC
    rw [hI]
    simp only [e1]
    repeat' split
    all_goals rfl
   ·rw [if_neg hh]
    refine (lu _ _ _ _ i1.1 i1.2).trans ?_
    have hF:acJ e f={ f with i:=wi (f.i+1) }:=by unfold acJ agX adC; rw [hI]; exact if_neg hh
    rw [hF]
    unfold adC
    rw [hI]
    simp only [e1]
    repeat' split
    all_goals rfl
end
structure LeafC (e:EnvV) (f:FrV):Prop where
 cf:CfgOk e.c
 fit:Fit e
 rc:(e.recs.length:Int)=e.c.tasks
 cap:f.q.cap≤9223372036854775807
 run:f.kind=24→LOk f∧(f.line≠23→aBr e f)∧(f.line=3→ann e (aa7 f.l))
 cl:f.kind=26→0≤f.i
 pr:f.kind=21→0≤f.i∧f.i≤e.c.workers
section
variable {e:EnvV} {f:FrV}
theorem ayB (p:LeafC e f):aks e f=some (aek (afi e f)):=by
 unfold aks afi
 by_cases hk:f.kind=0
 ·simp only [ayf p.cap,Option.bind_some,Int.reduceEq,hk,if_true,if_false]
  try rfl
 have n0:=hk; clear hk
 by_cases hk:f.kind=1
 ·simp only [az0 p.cap,Option.bind_some,Int.reduceEq,hk,if_true,if_false]
  try rfl
 have n1:=hk; clear hk
 by_cases hk:f.kind=2
 ·simp only [avw p.cap,Option.bind_some,Int.reduceEq,hk,if_true,if_false]
  try rfl
 have n2:=hk; clear hk
 by_cases hk:f.kind=3
 ·simp only [aa3,abw,aaD,aa4,Option.bind_some,Int.reduceEq,hk,if_true,if_false]
  try rfl
 have n3:=hk; clear hk
 by_cases hk:f.kind=4
 ·simp only [apJ,Option.bind_some,Int.reduceEq,hk,if_true,if_false]
  try rfl
 have n4:=hk; clear hk
 by_cases hk:f.kind=6
 ·simp only [hk,if_true,if_false,aa3,abw,aaD,aa4,Option.bind_some,Int.reduceEq,EnvV.rd,EnvV.hit]
  split<;>first | rfl | (rename_i hh; simp only [hh,if_true,if_false,Bool.false_eq_true]; try rfl)
 have n6:=hk; clear hk
 by_cases hk:f.kind=7
 ·simp only [hk,if_true,if_false,aa3,abw,aaD,aa4,Option.bind_some,Int.reduceEq,EnvV.rd,EnvV.hit]
  split<;>first | rfl | (rename_i hh; simp only [hh,if_true,if_false,Bool.false_eq_true]; try rfl)
 have n7:=hk; clear hk
 by_cases hk:f.kind=8
 ·simp only [hk,if_true,if_false,aa3,abw,aaD,aa4,Option.bind_some,Int.reduceEq,EnvV.rd,EnvV.hit]
  split<;>first | rfl | (rename_i hh; simp only [hh,if_true,if_false,Bool.false_eq_true]; try rfl)
 have n8:=hk; clear hk
 by_cases hk:f.kind=9
 ·simp only [aa3,abw,aaD,aa4,Option.bind_some,Int.reduceEq,hk,if_true,if_false]
  try rfl
 have n9:=hk; clear hk
 by_cases hk:f.kind=10
 ·simp only [at9,Option.bind_some,Int.reduceEq,hk,if_true,if_false]
  try rfl
 have n10:=hk; clear hk
 by_cases hk:f.kind=11
 ·simp only [asX p.fit,Option.bind_some,Int.reduceEq,hk,if_true,if_false]
  try rfl
 have n11:=hk; clear hk
 by_cases hk:f.kind=12
 ·simp only [aoO hk,Option.bind_some,Int.reduceEq,hk,if_true,if_false]
  try rfl
 have n12:=hk; clear hk
 by_cases hk:f.kind=13
 ·simp only [amg hk,Option.bind_some,Int.reduceEq,hk,if_true,if_false]
  try rfl
 have n13:=hk; clear hk
 by_cases hk:f.kind=14
 ·simp only [aoN hk p.fit p.rc,Option.bind_some,Int.reduceEq,hk,if_true,if_false]
  try rfl
 have n14:=hk; clear hk
 by_cases hk:f.kind=15
 ·simp only [aoM hk,Option.bind_some,Int.reduceEq,hk,if_true,if_false]
  try rfl
 have n15:=hk; clear hk
 by_cases hk:f.kind=16
 ·simp only [apP hk p.fit,Option.bind_some,Int.reduceEq,hk,if_true,if_false]
  try rfl
 have n16:=hk; clear hk
 by_cases hk:f.kind=17
 ·simp only [asd hk,Option.bind_some,Int.reduceEq,hk,if_true,if_false]
  try rfl
 have n17:=hk; clear hk
 by_cases hk:f.kind=18
 ·simp only [avs p.fit,Option.bind_some,Int.reduceEq,hk,if_true,if_false]
  try rfl
 have n18:=hk; clear hk
 by_cases hk:f.kind=19
 ·simp only [avz p.fit,Option.bind_some,Int.reduceEq,hk,if_true,if_false]
  try rfl
 have n19:=hk; clear hk
 by_cases hk:f.kind=20
 ·simp only [axA p.fit,Option.bind_some,Int.reduceEq,hk,if_true,if_false]
  try rfl
 have n20:=hk; clear hk
 by_cases hk:f.kind=21
 ·simp only [av4 p.cf (p.pr hk),Option.bind_some,Int.reduceEq,hk,if_true,if_false]
  try rfl
 have n21:=hk; clear hk
 by_cases hk:f.kind=22
 ·simp only [awJ,Option.bind_some,Int.reduceEq,hk,if_true,if_false]
  try rfl
 have n22:=hk; clear hk
 by_cases hk:f.kind=24
 ·simp only [azP (p.run hk).1 (p.run hk).2.1 p.fit (p.run hk).2.2,Option.bind_some,Int.reduceEq,hk,if_true,if_false]
  try rfl
 have n24:=hk; clear hk
 by_cases hk:f.kind=26
 ·simp only [auL (p.cl hk) p.fit,Option.bind_some,Int.reduceEq,hk,if_true,if_false]
  try rfl
 have n26:=hk; clear hk
 simp only [n0,n1,n2,n3,n4,n6,n7,n8,n9,n10,n11,n12,n13,n14,n15,n16,n17,n18,n19,n20,n21,n22,n24,n26,if_false]
 rfl
structure BackC (e:EnvV) (f:FrV) (code value:Int):Prop where
 cf:CfgOk e.c
 fit:Fit e
 run:f.kind=24→(LOk f∧aBr e f)∧(f.line=5→ann e (aa7 f.l)∧(e.rc (aa7 f.l)).kids.length<999999999∧(code≠3→0≤value∧value<(e.recs.length:Int)))
 cl:f.kind=26→(0≤f.i∧f.i<(e.c.subs.length:Int))∧(f.line=3→code≠3→0≤value∧value<(e.recs.length:Int))
theorem apS (hE:Fit e) (code:Int):ahj e f code=some (aek (ast e f code)):=by
 unfold ahj ast
 simp only [ado hE,Option.bind_some]
 repeat' split
 all_goals rfl
theorem aoz (code value:Int):af7 e f code value=some (aek (aou e f code value)):=by
 unfold af7 aou
 repeat' split
 all_goals first | rfl | omega
theorem apT (code value:Int):((ahk f code value).bind fun r =>some ((r.1.1,()),(e,r.2.1,())))=some (aek (ans e f code value)):=by
 unfold ahk ans
 repeat' split
 all_goals rfl
theorem ane (hc:CfgOk e.c) (hE:Fit e) (code value:Int):((aft e f code value).bind fun r =>some (((⟨false,0,0⟩:ResV),()),(r.2.1,r.2.2.1,())))=some (aek (aij e f code value)):=by
 unfold aft aij
 have ht:=hc.t1
 have hm:(if 1<e.c.tasks then e.c.tasks else 1)≠0:=by split<;>omega
 simp only [ado hE,Option.bind_some,hm,ne_eq,not_false_iff,if_true]
 repeat' split
 all_goals rfl
theorem aom:afa e f=some (aek (ajr e f)):=by
 unfold afa ajr
 split<;>rfl
theorem anf (hE:Fit e) {code value:Int} (hi:0≤f.i∧f.i<(e.c.subs.length:Int)) (hv:f.line=3→code≠3→0≤value∧value<(e.recs.length:Int)):afu e f code value=some (aek (ak5 e f code value)):=by
 unfold afu ak5
 simp only [hi,and_self,if_true,ado hE,aom,af6,Option.bind_some]
 by_cases h1:f.line=1
 ·simp only [h1,if_true]; rfl
 by_cases h3:f.line=3
 ·simp only [h3,if_true,if_false,Int.reduceEq]
  by_cases hcode:code=3
  ·simp only [hcode,if_true]; rfl
  ·have:=hv h3 hcode
   simp only [hcode,this,and_self,if_true,if_false]; rfl
 simp only [if_neg h1,if_neg h3]
 repeat' split
 all_goals rfl
theorem LOk.dl (h:LOk f):f.l.length=f.l.dropLast.length+1:=by
 have:=List.length_pos_iff.2 h.ne
 rw [List.length_dropLast]; omega
theorem ay5 {rs:List RecV} (h:Fit e) (k w t o l:Int):aaM { e with recs:=rs } k w t o l=some ((()),(({ e with recs:=rs }:EnvV).em k w t o l,())):=ado (e:={ e with recs:=rs }) h k w t o l
theorem ase (hE:Fit e) {code value:Int} (h:LOk f) (ht:aBr e f) (h5:f.line=5→ann e (aa7 f.l)∧(e.rc (aa7 f.l)).kids.length<999999999∧(code≠3→0≤value∧value<(e.recs.length:Int))):aix e f code value=some (aek (azQ e f code value)):=by
 unfold aix azQ
 have ht2:0≤aa7 f.l∧aa7 f.l<(e.recs.length:Int):=ht
 have hle:=h.le
 have hdl:=h.dl
 have g1:∀ n:Nat,n<999999999→(((n:Nat):Int)<1000000000000)=True:=fun n hn =>eq_true (by omega)
 simp only [h.n,h.a,h.g,h.g2,h.t,apZ ht2,if_true,ht2,and_self]
 by_cases l5:f.line=5
 ·obtain ⟨⟨p1,p2⟩,p3,p4⟩:=h5 l5
  rw [ann.prog ⟨p1,p2⟩] at p2
  have hi:e.ins (aa7 f.l)=acA (atL [] e.c.progs (e.rc (aa7 f.l)).prog) (e.rc (aa7 f.l)).pc:=by unfold EnvV.ins; rw [(h5 l5).1.prog]
  simp only [EnvV.rc] at p1 p2 p3 hi
  have q1:¬ (aat e.recs (aa7 f.l)).prog<0:=by omega
  have q2:¬ ((e.c.progs.length:Nat):Int)≤(aat e.recs (aa7 f.l)).prog:=by omega
  have q3:((([]:List Int).length+(aat e.recs (aa7 f.l)).kids.length:Nat):Int)<1000000000000:=by simp; omega
  have q4:∀ k:Int,(((aat e.recs (aa7 f.l)).kids.length+([k]:List Int).length:Nat):Int)<1000000000000:=fun k =>by simp; omega
  simp only [if_pos l5,acL,q1,q2,p1,p2,if_false,if_true,and_self,apU ht2,List.set_set,q3,q4,af6,Option.bind_some,ay5 hE,List.length_set,hi,List.nil_append]
  by_cases hcode:code=3
  ·simp only [hcode,if_true]; rfl
  ·have:=p4 hcode
   simp only [hcode,if_false,this,and_self,if_true]; rfl
 simp only [if_neg l5,ado hE,Option.bind_some]
 by_cases l6:f.line=6
 ·simp only [l6,if_true]; rfl
 by_cases l7:f.line=7
 ·simp only [l7,if_true,if_false,Int.reduceEq]; split<;>rfl
 by_cases l8:f.line=8
 ·simp only [l8,if_true,if_false,Int.reduceEq]; rfl
 by_cases l9:f.line=9
 ·have q1:((([]:List Int).length+f.l.length:Nat):Int)<1000000000000:=by simp; omega
  have q2:((f.l.length+([f.n]:List Int).length:Nat):Int)<1000000000000:=by simp; omega
  simp only [l9,if_true,if_false,Int.reduceEq,q1,q2,List.nil_append,acL]; split<;>rfl
 by_cases l14:f.line=14
 ·simp only [l14,if_true,if_false,Int.reduceEq,ag4 h]
 by_cases l20:f.line=20
 ·simp only [l20,if_true,if_false,Int.reduceEq]; split<;>rfl
 by_cases l21:f.line=21
 ·simp only [l21,if_true,if_false,Int.reduceEq,ag4 h]
 by_cases l22:f.line=22
 ·have q1:((([]:List Int).length+f.l.dropLast.length:Nat):Int)<1000000000000:=by simp; omega
  have q2:((f.l.dropLast.length+([f.n]:List Int).length:Nat):Int)<1000000000000:=by simp; omega
  simp only [l22,if_true,if_false,Int.reduceEq,q1,q2,List.nil_append,ag4 h,acL]
  by_cases hcode:code=1
  ·simp only [hcode,ne_eq,not_true,if_false,if_true]; try rfl
  ·simp only [hcode,ne_eq,not_false_iff,if_false,if_true]
 simp only [l6,l7,l8,l9,l14,l20,l21,l22,if_false]; rfl
theorem azi {code value:Int} (p:BackC e f code value):alF e f code value=some (aek (ahK e f code value)):=by
 unfold alF ahK
 by_cases k5:f.kind=5
 ·simp only [k5,if_true]
  repeat' split
  all_goals first | rfl | omega
 by_cases k6:f.kind=6
 ·simp only [k6,if_true,if_false,Int.reduceEq]
  repeat' split
  all_goals first | rfl | omega
 by_cases k15:f.kind=15
 ·simp only [k15,if_true,if_false,Int.reduceEq]; rfl
 by_cases k17:f.kind=17
 ·simp only [k17,if_true,if_false,Int.reduceEq,apS p.fit,Option.bind_some]; try rfl
 by_cases k18:f.kind=18
 ·simp only [k18,if_true,if_false,Int.reduceEq,ado p.fit,Option.bind_some]
  split<;>rfl
 by_cases k22:f.kind=22
 ·simp only [k22,if_true,if_false,Int.reduceEq,aoz,Option.bind_some]; try rfl
 by_cases k23:f.kind=23
 ·simp only [k23,if_true,if_false,Int.reduceEq,apT]
 by_cases k24:f.kind=24
 ·have hr:=p.run k24
  simp only [k24,if_true,if_false,Int.reduceEq,ase p.fit hr.1.1 hr.1.2 hr.2,Option.bind_some]; try rfl
 by_cases k25:f.kind=25
 ·simp only [k25,if_true,if_false,Int.reduceEq,ane p.cf p.fit]
 by_cases k26:f.kind=26
 ·have hr:=p.cl k26
  simp only [k26,if_true,if_false,Int.reduceEq,anf p.fit hr.1 hr.2,Option.bind_some]; try rfl
 simp only [k5,k6,k15,k17,k18,k22,k23,k24,k25,k26,if_false]; rfl
structure EntC (e:EnvV) (f:FrV):Prop where
 cf:CfgOk e.c
 rc:(e.recs.length:Int)=e.c.tasks
 run:f.kind=24→LOk f
 cl:f.kind=26→0≤f.i
def aCv (e:EnvV) (o:Option FrV×FrV):(FrV×Bool×Unit)×(EnvV×FrV×Unit):=((o.1.getD (frK 0),o.1.isSome,()),(e,o.2,()))
theorem awH (p:EntC e f):ah1 e f=some (aCv e (aiO e f)):=by
 unfold ah1 aiO
 by_cases k5:f.kind=5
 ·simp only [k5,if_true,aaY,aaD,Option.bind_some]
  split<;>rfl
 by_cases k6:f.kind=6
 ·simp only [k6,if_true,if_false,Int.reduceEq,aaY,aaD,Option.bind_some]
  repeat' split
  all_goals rfl
 by_cases k15:f.kind=15
 ·simp only [k15,if_true,if_false,Int.reduceEq]
  split<;>rfl
 by_cases k17:f.kind=17
 ·simp only [k17,if_true,if_false,Int.reduceEq]
  by_cases l1:f.line=1
  ·simp only [l1,if_true,if_false,Int.reduceEq,acm]
   by_cases a1:0≤f.b
   ·by_cases a2:f.b<e.c.tasks
    ·by_cases a3:f.b<(e.recs.length:Int)
     ·by_cases a4:0≤f.d
      ·by_cases a5:f.d<e.c.levels
       ·simp only [a1,a2,a3,a4,a5,if_true,and_self]; rfl
       ·simp only [a1,a2,a3,a4,a5,if_true,if_false,and_self,and_false]; rfl
      ·simp only [a1,a2,a3,a4,if_true,if_false,and_self,and_false,false_and]; rfl
     ·simp only [a1,a2,a3,if_true,if_false,and_self,and_false,false_and]; rfl
    ·simp only [a1,a2,if_true,if_false,and_self,and_false,false_and]; rfl
   ·simp only [a1,if_false,false_and]; rfl
  ·simp only [l1,if_false]
   split<;>rfl
 by_cases k18:f.kind=18
 ·simp only [k18,if_true,if_false,Int.reduceEq]
  split<;>rfl
 by_cases k22:f.kind=22
 ·simp only [k22,if_true,if_false,Int.reduceEq,am5,Option.bind_some]; rfl
 by_cases k23:f.kind=23
 ·simp only [k23,if_true,if_false,Int.reduceEq]
  split<;>rfl
 by_cases k24:f.kind=24
 ·simp only [k24,if_true,if_false,Int.reduceEq,apy (p.run k24) p.rc p.cf,Option.bind_some]; rfl
 by_cases k25:f.kind=25
 ·simp only [k25,if_true,if_false,Int.reduceEq,alh,Option.bind_some]; rfl
 by_cases k26:f.kind=26
 ·simp only [k26,if_true,if_false,Int.reduceEq,ali (p.cl k26),Option.bind_some]; rfl
 simp only [k5,k6,k15,k17,k18,k22,k23,k24,k25,k26,if_false]; rfl
end
structure FrR (K:Nat) (f:FrV):Prop where
 a:Rg f.a
 b:Rg f.b
 d:Rg f.d
 i:Rg f.i
 j:Rg f.j
 n:Rg f.n
 t:Rg f.t
 l:∀ x∈f.l,Rg x
 ln:f.l.length≤K
 cap:f.q.cap≤9223372036854775807
structure EvR (e:Ev):Prop where
 kind:Rg e.kind
 worker:Rg e.worker
 task:Rg e.task
 other:Rg e.other
 level:Rg e.level
def azC (K:Nat) (evs:List Ev):Prop:=evs.length≤K∧∀ e∈evs,EvR e
def asq (K:Nat) (c:Cfg) (recs:List RecV):Prop:=(recs.length:Int)=c.tasks∧∀ r∈recs,r.kids.length≤K∧∀ x∈r.kids,Rg x
theorem FrR.all {K:Nat} {f:FrV} (h:FrR K f):Rg f.a∧Rg f.b∧Rg f.d∧Rg f.i∧Rg f.j∧Rg f.n∧Rg f.t∧(∀ x∈f.l,Rg x)∧f.l.length≤K+1∧f.q.cap≤9223372036854775807∧f.l.length≤K:=⟨h.a,h.b,h.d,h.i,h.j,h.n,h.t,h.l,Nat.le_succ_of_le h.ln,h.cap,h.ln⟩
theorem FrR.le {K L:Nat} {f:FrV} (h:FrR K f) (hl:K≤L):FrR L f:=⟨h.a,h.b,h.d,h.i,h.j,h.n,h.t,h.l,Nat.le_trans h.ln hl,h.cap⟩
theorem azC.le {K L:Nat} {e:List Ev} (h:azC K e) (hl:K≤L):azC L e:=⟨Nat.le_trans h.1 hl,h.2⟩
theorem asq.le {K L:Nat} {c:Cfg} {e:List RecV} (h:asq K c e) (hl:K≤L):asq L c e:=⟨h.1,fun r hr =>⟨Nat.le_trans (h.2 r hr).1 hl,(h.2 r hr).2⟩⟩
theorem FrR.up {K:Nat} {f:FrV} (h:FrR K f):FrR (K+1) f:=h.le (Nat.le_succ K)
theorem rg0:Rg 0:=aae (by decide)
theorem aay (x:Int):Rg (ayy x):=by have:=ayx x; exact aae (by omega)
theorem aaq (x:Int):Rg (aif x):=by have:=awv x; exact aae (by omega)
structure EP (K:Nat) (e e':EnvV):Prop where
 c:e'.c=e.c
 now:e'.now=e.now
 draw:e'.draw=e.draw
 len:e'.m.cells.length=e.m.cells.length
 rcs:asq K e.c e.recs→asq (K+1) e.c e'.recs
 evs:e'.evs=e.evs
structure EQ (K:Nat) (e e':EnvV):Prop where
 c:e'.c=e.c
 now:e'.now=e.now
 draw:e'.draw=e.draw
 len:e'.m.cells.length=e.m.cells.length
 rcs:asq K e.c e.recs→asq (K+1) e.c e'.recs
 evs:azC K e.evs→azC (K+1) e'.evs
section
variable {K:Nat} {e e':EnvV} {f:FrV}
theorem EP.refl:EP K e e:=⟨rfl,rfl,rfl,rfl,fun h =>h.le (Nat.le_succ K),rfl⟩
theorem EP.ac (h:EP K e e') {k a v w:Int}:EP K e (e'.ac k a v w):=⟨h.c,h.now,h.draw,(azk _ _ _ _ _).trans h.len,h.rcs,h.evs⟩
theorem atO {α:Type} {xs:List α} {n:Nat} {y x:α} (h:x∈xs.set n y):x=y∨x∈xs:=by
 rcases List.mem_or_eq_of_mem_set h with h | h
 ·exact .inr h
 ·exact .inl h
theorem EP.put (h:EP K e e') {t:Int} {r:RecV} (hr:asq K e.c e.recs→r.kids.length≤K+1∧∀ x∈r.kids,Rg x):EP K e (e'.put t r):=⟨h.c,h.now,h.draw,h.len,fun hh =>by
 have h1:=h.rcs hh
 refine ⟨by simp [EnvV.put]; exact h1.1,fun x hx =>?_⟩
 rcases atO hx with rfl | hx
 ·exact hr hh
 ·exact h1.2 x hx,h.evs⟩
theorem EQ.of (h:EP K e e'):EQ K e e':=⟨h.c,h.now,h.draw,h.len,h.rcs,fun hh =>by rw [h.evs]; exact hh.le (Nat.le_succ K)⟩
theorem EQ.em (h:EP K e e') {k w t o l:Int} (hk:Rg k) (hw:Rg w) (ht:Rg t) (ho:Rg o) (hl:Rg l):EQ K e (e'.em k w t o l):=⟨h.c,h.now,h.draw,h.len,h.rcs,fun hh =>by
 refine ⟨by simp [EnvV.em,h.evs]; exact hh.1,fun x hx =>?_⟩
 have hx2:x∈e.evs++[⟨k,w,t,o,l⟩]:=by rw [← h.evs]; exact hx
 rcases List.mem_append.1 hx2 with hx | hx
 ·exact hh.2 x hx
 ·rw [List.mem_singleton] at hx; subst hx; exact ⟨hk,hw,ht,ho,hl⟩⟩
theorem asY (hr:asq K e.c e.recs) (t:Int):(e.rc t).kids.length≤K∧∀ x∈(e.rc t).kids,Rg x:=by
 by_cases h:t.toNat<e.recs.length
 ·refine hr.2 _ ?_
  have:e.recs[t.toNat]?=some (e.rc t):=by simp [EnvV.rc,aat,atL,h]; rfl
  exact List.mem_of_getElem? this
 ·have:e.rc t=(dfR 7:TR 7):=by simp [EnvV.rc,aat,atL,h]; rfl
  rw [this]
  exact ⟨Nat.zero_le _,fun x hx =>by cases hx⟩
structure LfP (K:Nat) (e:EnvV) (f:FrV) (o:Lf):Prop where
 fr:FrR (K+1) o.2.2
 kind:o.2.2.kind=f.kind
 val:Rg o.1.value
 env:EQ K e o.2.1
set_option maxHeartbeats 4000000 in
theorem ab4 (h:FrR K f) (hn:Rg e.now):LfP K e f (arQ e f)∧LfP K e f (azs e f)∧LfP K e f (alp e f)∧LfP K e f (al4 e f)∧LfP K e f (ajp e f)∧LfP K e f (ai6 e f)∧LfP K e f (ahp e f)∧LfP K e f (ajt e f)∧LfP K e f (alx e f)∧LfP K e f (arb e f)∧LfP K e f (aln e f)∧LfP K e f (alr e f)∧LfP K e f (arc e f)∧LfP K e f (al0 e f):=by
 obtain ⟨ha_,hb_,hd_,hi_,hj_,hn_,ht_,hl_,hu_,hcap_,hln_⟩:=h.all
 have hu:Rg (afC f.u).2.2:=aaG _
 refine ⟨?_,?_,?_,?_,?_,?_,?_,?_,?_,?_,?_,?_,?_,?_⟩
 all_goals (first | unfold arQ | unfold azs | unfold alp | unfold al4 | unfold ajp | unfold ai6 | unfold ahp | unfold ajt | unfold alx | unfold arb | unfold aln | unfold alr | unfold arc | unfold al0)
 all_goals (repeat' split)
 all_goals (refine ⟨?_,rfl,?_,?_⟩<;>(try dsimp only [go,fin])<;>first | (with_reducible first | assumption | exact aaG _ | exact aay _ | exact aaq _ | exact aae (by decide)) | exact EQ.of EP.refl | exact EQ.of EP.refl.ac | ((first | refine EQ.em EP.refl ?_ ?_ ?_ ?_ ?_ | refine EQ.em EP.refl.ac ?_ ?_ ?_ ?_ ?_ | constructor)<;>(try dsimp only)<;>with_reducible first | assumption | exact aaG _ | exact aay _ | exact aaq _ | exact aae (by decide)))
theorem av2 (h:FrR K f) (hn:Rg e.now):LfP K e f (arQ e f):=(ab4 h hn).1
theorem ayh (h:FrR K f) (hn:Rg e.now):LfP K e f (azs e f):=(ab4 h hn).2.1
theorem asD (h:FrR K f) (hn:Rg e.now):LfP K e f (alp e f):=(ab4 h hn).2.2.1
theorem auM (h:FrR K f) (hn:Rg e.now):LfP K e f (al4 e f):=(ab4 h hn).2.2.2.1
theorem ar0 (h:FrR K f) (hn:Rg e.now):LfP K e f (ajp e f):=(ab4 h hn).2.2.2.2.1
theorem arq (h:FrR K f) (hn:Rg e.now):LfP K e f (ai6 e f):=(ab4 h hn).2.2.2.2.2.1
theorem apc (h:FrR K f) (hn:Rg e.now):LfP K e f (ahp e f):=(ab4 h hn).2.2.2.2.2.2.1
theorem ar7 (h:FrR K f) (hn:Rg e.now):LfP K e f (ajt e f):=(ab4 h hn).2.2.2.2.2.2.2.1
theorem as2 (h:FrR K f) (hn:Rg e.now):LfP K e f (alx e f):=(ab4 h hn).2.2.2.2.2.2.2.2.1
theorem avl (h:FrR K f) (hn:Rg e.now):LfP K e f (arb e f):=(ab4 h hn).2.2.2.2.2.2.2.2.2.1
theorem asy (h:FrR K f) (hn:Rg e.now):LfP K e f (aln e f):=(ab4 h hn).2.2.2.2.2.2.2.2.2.2.1
theorem asF (h:FrR K f) (hn:Rg e.now):LfP K e f (alr e f):=(ab4 h hn).2.2.2.2.2.2.2.2.2.2.2.1
theorem avm (h:FrR K f) (hn:Rg e.now):LfP K e f (arc e f):=(ab4 h hn).2.2.2.2.2.2.2.2.2.2.2.2.1
theorem auy (h:FrR K f) (hn:Rg e.now):LfP K e f (al0 e f):=(ab4 h hn).2.2.2.2.2.2.2.2.2.2.2.2.2
theorem auO (h:FrR K f):LfP K e f (al5 e f):=by
 obtain ⟨ha_,hb_,hd_,hi_,hj_,hn_,ht_,hl_,hu_,hcap_,hln_⟩:=h.all
 unfold al5
 split
 ·refine ⟨h.up,rfl,h.b,EQ.em (EP.refl.ac.put fun hr =>?_) ?_ ?_ ?_ ?_ ?_⟩
  ·have:=asY hr f.b
   exact ⟨Nat.le_succ_of_le this.1,this.2⟩
  ·split<;>exact aae (by decide)
  all_goals (with_reducible first | assumption | exact aaG _ | exact aay _ | exact aaq _ | exact aae (by decide))
 ·refine ⟨h.up,rfl,rg0,EQ.em EP.refl.ac ?_ ?_ ?_ ?_ ?_⟩<;>(with_reducible first | assumption | exact aaG _ | exact aay _ | exact aaq _ | exact aae (by decide))
theorem ava (h:FrR K f):LfP K e f (aiY e f)∧(aiY e f).1.done=true∧(aiY e f).2.1.recs=e.recs∧((aiY e f).1.code=3∨acm e (aiY e f).1.value):=by
 unfold aiY
 split
 ·rename_i hh; exact ⟨⟨h.up,rfl,aaG _,EQ.of EP.refl.ac⟩,rfl,rfl,.inr hh⟩
 ·exact ⟨⟨h.up,rfl,rg0,EQ.of EP.refl.ac⟩,rfl,rfl,.inl rfl⟩
theorem att (h:FrR K f) (hc:CfgOk e.c) (hd:Rg e.draw) (hi:0≤f.i∧f.i≤e.c.workers):LfP K e f (ajP e f)∧((ajP e f).1.done=false→0≤(ajP e f).2.2.i∧(ajP e f).2.2.i≤e.c.workers):=by
 obtain ⟨ha_,hb_,hd_,hi_,hj_,hn_,ht_,hl_,hu_,hcap_,hln_⟩:=h.all
 have w1:=hc.w1
 have w2:=hc.w2
 have hb:FrR K (ahT e f)∧(ahT e f).kind=f.kind∧(ahT e f).i=f.i:=by
  unfold ahT
  split
  ·have hdr:Rg (acy e.draw e.c.workers):=aux (by omega)
   refine ⟨?_,rfl,rfl⟩
   constructor<;>(try dsimp only)<;>first | exact hdr | exact h.a | exact h.b | exact h.d | exact h.i | exact h.l | exact h.ln | exact h.cap | exact aae (by decide)
  ·exact ⟨h,rfl,rfl⟩
 unfold ajP
 generalize ahT e f=g at hb
 obtain ⟨hg,hk,hgi⟩:=hb
 suffices H:LfP K e g (ajO e g)∧((ajO e g).1.done=false→0≤(ajO e g).2.2.i∧(ajO e g).2.2.i≤e.c.workers) from ⟨⟨H.1.fr,H.1.kind.trans hk,H.1.val,H.1.env⟩,H.2⟩
 rw [← hgi] at hi
 clear h hk hgi
 have h:=hg
 obtain ⟨ha_,hb_,hd_,hi_,hj_,hn_,ht_,hl_,hu_,hcap_,hln_⟩:=h.all
 have hI:g.i≤adM e g∧adM e g≤g.i+1:=by
  unfold adM
  split
  ·rw [aa2 (aae (by omega))]; omega
  ·omega
 have hI2:wi (adM e g+1)=adM e g+1:=aa2 (aae (by omega))
 have hv:Rg (adC e g):=amf w1 (by omega)
 have hf:FrR (K+1) (acJ e g)∧(acJ e g).kind=g.kind∧(acJ e g).i=adM e g+1:=by
  unfold acJ
  have hh:Rg (agX e g):=aaq _
  split
  ·refine ⟨?_,rfl,hI2⟩
   (constructor<;>(try dsimp only)<;>with_reducible first | assumption | exact aaG _ | exact aay _ | exact aaq _ | exact aae (by decide))
  ·refine ⟨?_,rfl,hI2⟩
   (constructor<;>(try dsimp only)<;>with_reducible first | assumption | exact aaG _ | exact aay _ | exact aaq _ | exact aae (by decide))
 unfold ajO
 split
 ·exact ⟨⟨h.up,rfl,rg0,EQ.of EP.refl⟩,fun e =>by cases e⟩
 split
 ·rename_i hl
  refine ⟨⟨hf.1,hf.2.1,rg0,EQ.of EP.refl.ac⟩,fun _ =>?_⟩
  show 0≤(acJ e g).i∧(acJ e g).i≤e.c.workers
  rw [hf.2.2]
  rw [hI2] at hl
  by_cases hw:adM e g+1<e.c.workers
  ·omega
  ·exfalso
   unfold ayA at hl
   rw [show (e.c.workers-(adM e g+1)).toNat=0 by omega] at hl
   cases hl
 split
 ·exact ⟨⟨hf.1,hf.2.1,rg0,EQ.of EP.refl.ac⟩,fun e =>by cases e⟩
 ·exact ⟨⟨hf.1,hf.2.1,aaG _,EQ.of EP.refl.ac⟩,fun e =>by cases e⟩
def ala (c:Cfg) (f:FrV):Prop:=f.l≠[]∧f.line≠3∧f.line≠5∧f.line≠23∧(f.line≠1→0≤aa7 f.l∧aa7 f.l<c.tasks)
theorem asv (h:FrR K f):Rg (aa7 f.l):=by
 unfold aa7
 cases hl:f.l.getLast? with
 | none =>exact aae (by decide)
 | some x =>exact h.l x (List.mem_of_getLast? hl)
theorem ag5 (h:FrR K f) (he:EQ K e e'):LfP K e f (ad4 e' f)∧(f.l≠[]→(ad4 e' f).1.done=false→ala e.c (ad4 e' f).2.2):=by
 obtain ⟨ha_,hb_,hd_,hi_,hj_,hn_,ht_,hl_,hu_,hcap_,hln_⟩:=h.all
 have hf:FrR (K+1) { f with line:=1,l:=f.l.dropLast }:=by
  have hln:f.l.dropLast.length≤K+1:=by have:=h.ln; simp; omega
  have hl2:∀ x∈f.l.dropLast,Rg x:=fun x hx =>h.l x (List.mem_of_mem_take (by rw [List.dropLast_eq_take] at hx; exact hx))
  (constructor<;>(try dsimp only)<;>with_reducible first | assumption | exact aaG _ | exact aay _ | exact aaq _ | exact aae (by decide))
 unfold ad4
 split
 ·exact ⟨⟨hf,rfl,rg0,he⟩,fun _ e =>by cases e⟩
 ·rename_i hl
  refine ⟨⟨hf,rfl,rg0,he⟩,fun hne _ =>⟨?_,by simp [go],by simp [go],by simp [go],fun e =>absurd rfl e⟩⟩
  show f.l.dropLast≠[]
  intro e0
  have h1:=List.length_pos_iff.2 hne
  have h2:=congrArg List.length e0
  simp at h2
  omega
theorem ar4 (h:FrR K f) (hl:f.l≠[]) (ht:0≤aa7 f.l∧aa7 f.l<e.c.tasks):LfP K e f (aig e f (aa7 f.l))∧((aig e f (aa7 f.l)).1.done=false→ala e.c (aig e f (aa7 f.l)).2.2):=by
 obtain ⟨ha_,hb_,hd_,hi_,hj_,hn_,ht_,hl_,hu_,hcap_,hln_⟩:=h.all
 have hT:=asv h
 unfold aig
 split
 ·refine ⟨?_,fun _ =>⟨hl,by simp [go],by simp [go],by simp [go],fun _ =>ht⟩⟩
  (refine ⟨?_,rfl,?_,?_⟩<;>(try dsimp only [go,fin])<;>first | (with_reducible first | assumption | exact aaG _ | exact aay _ | exact aaq _ | exact aae (by decide)) | exact EQ.of EP.refl | exact EQ.of EP.refl.ac | ((first | refine EQ.em EP.refl ?_ ?_ ?_ ?_ ?_ | refine EQ.em EP.refl.ac ?_ ?_ ?_ ?_ ?_ | constructor)<;>(try dsimp only)<;>with_reducible first | assumption | exact aaG _ | exact aay _ | exact aaq _ | exact aae (by decide)))
 split
 ·split
  ·have:=ag5 (e:=e) h (EQ.em (e':=e.ac 3 (aa0 e.c (aa7 f.l) 2) 0 4294967296) (k:=10) (w:=f.a) (t:=aa7 f.l) (o:=0) (l:=0) EP.refl.ac (aae (by decide)) h.a hT (aae (by decide)) (aae (by decide)))
   exact ⟨this.1,this.2 hl⟩
  ·refine ⟨?_,fun _ =>⟨hl,by simp [go],by simp [go],by simp [go],fun _ =>ht⟩⟩
   (refine ⟨?_,rfl,?_,?_⟩<;>(try dsimp only [go,fin])<;>first | (with_reducible first | assumption | exact aaG _ | exact aay _ | exact aaq _ | exact aae (by decide)) | exact EQ.of EP.refl | exact EQ.of EP.refl.ac | ((first | refine EQ.em EP.refl ?_ ?_ ?_ ?_ ?_ | refine EQ.em EP.refl.ac ?_ ?_ ?_ ?_ ?_ | constructor)<;>(try dsimp only)<;>with_reducible first | assumption | exact aaG _ | exact aay _ | exact aaq _ | exact aae (by decide)))
 split
 ·refine ⟨?_,fun _ =>⟨hl,by simp [go],by simp [go],by simp [go],fun _ =>ht⟩⟩
  (refine ⟨?_,rfl,?_,?_⟩<;>(try dsimp only [go,fin])<;>first | (with_reducible first | assumption | exact aaG _ | exact aay _ | exact aaq _ | exact aae (by decide)) | exact EQ.of EP.refl | exact EQ.of EP.refl.ac | ((first | refine EQ.em EP.refl ?_ ?_ ?_ ?_ ?_ | refine EQ.em EP.refl.ac ?_ ?_ ?_ ?_ ?_ | constructor)<;>(try dsimp only)<;>with_reducible first | assumption | exact aaG _ | exact aay _ | exact aaq _ | exact aae (by decide)))
 ·have h2:FrR K { f with n:=wi (wu (e.ld (aa0 e.c (aa7 f.l) 2)-1)) }:=⟨h.a,h.b,h.d,h.i,h.j,aaG _,h.t,h.l,h.ln,h.cap⟩
  have:=ag5 (e:=e) (e':=e.lm (aa0 e.c (aa7 f.l) 2)) h2 (EQ.of EP.refl.ac)
  exact ⟨⟨this.1.fr,this.1.kind,this.1.val,this.1.env⟩,this.2 hl⟩
theorem axZ (h:FrR K f) (hl:f.l≠[]) (ht:f.line≠23→0≤aa7 f.l∧aa7 f.l<e.c.tasks):LfP K e f (ax0 e f)∧((ax0 e f).1.done=false→ala e.c (ax0 e f).2.2):=by
 obtain ⟨ha_,hb_,hd_,hi_,hj_,hn_,ht_,hl_,hu_,hcap_,hln_⟩:=h.all
 have hT:=asv h
 have hr:∀ {r:RecV},r.kids=(e.rc (aa7 f.l)).kids→asq K e.c e.recs→r.kids.length≤K+1∧∀ x∈r.kids,Rg x:=fun hk hr =>by
  have:=asY hr (aa7 f.l)
  rw [hk]; exact ⟨Nat.le_succ_of_le this.1,this.2⟩
 unfold ax0
 by_cases h23:f.line=23
 ·rw [if_pos h23]; exact ⟨⟨h.up,rfl,rg0,EQ.of EP.refl⟩,fun e =>by cases e⟩
 rw [if_neg h23]
 have ht:=ht h23
 by_cases h2:f.line=2
 ·rw [if_pos h2]
  refine ⟨⟨?_,rfl,rg0,EQ.of (EP.refl.ac.put (hr rfl))⟩,fun _ =>⟨hl,by simp [go],by simp [go],by simp [go],fun _ =>ht⟩⟩
  dsimp only [go]; (constructor<;>(try dsimp only)<;>with_reducible first | assumption | exact aaG _ | exact aay _ | exact aaq _ | exact aae (by decide))
 rw [if_neg h2]
 by_cases h3:f.line=3
 ·rw [if_pos h3]
  refine ⟨⟨?_,rfl,rg0,EQ.of (EP.refl.put (hr ?_))⟩,fun _ =>⟨hl,by simp [go],by simp [go],by simp [go],fun _ =>ht⟩⟩
  ·dsimp only [go]; (constructor<;>(try dsimp only)<;>with_reducible first | assumption | exact aaG _ | exact aay _ | exact aaq _ | exact aae (by decide))
  ·unfold aza
   repeat' split
   all_goals rfl
 rw [if_neg h3]
 by_cases h4:f.line=4
 ·rw [if_pos h4]
  refine ⟨⟨?_,rfl,rg0,EQ.of (EP.refl.put (hr rfl))⟩,fun _ =>⟨hl,by simp [go],by simp [go],by simp [go],fun _ =>ht⟩⟩
  dsimp only [go]; (constructor<;>(try dsimp only)<;>with_reducible first | assumption | exact aaG _ | exact aay _ | exact aaq _ | exact aae (by decide))
 rw [if_neg h4]
 by_cases h10:f.line=10
 ·rw [if_pos h10]
  refine ⟨⟨?_,rfl,rg0,EQ.of (EP.refl.ac.put (hr rfl))⟩,fun _ =>⟨hl,by simp [go],by simp [go],by simp [go],fun _ =>ht⟩⟩
  dsimp only [go]; (constructor<;>(try dsimp only)<;>with_reducible first | assumption | exact aaG _ | exact aay _ | exact aaq _ | exact aae (by decide))
 rw [if_neg h10]
 by_cases h16:f.line=16
 ·simp only [h16,if_true,if_false,Int.reduceEq]
  refine ⟨⟨?_,rfl,rg0,EQ.em (EP.refl.ac.put (hr (r:={ e.rc (aa7 f.l) with waiting := -1 }) rfl)) ?_ ?_ ?_ ?_ ?_⟩,fun _ =>⟨hl,by simp [go],by simp [go],by simp [go],fun _ =>ht⟩⟩
  ·dsimp only [go]; (constructor<;>(try dsimp only)<;>with_reducible first | assumption | exact aaG _ | exact aay _ | exact aaq _ | exact aae (by decide))
  all_goals (with_reducible first | assumption | exact aaG _ | exact aay _ | exact aaq _ | exact aae (by decide))
 simp only [if_neg h16]
 by_cases h11:f.line=11∨f.line=12∨f.line=13∨f.line=15
 ·repeat' split
  all_goals first
   | (refine ⟨?_,fun _ =>⟨hl,by simp [go],by simp [go],by simp [go],fun _ =>ht⟩⟩; (refine ⟨?_,rfl,?_,?_⟩<;>(try dsimp only [go,fin])<;>first | (with_reducible first | assumption | exact aaG _ | exact aay _ | exact aaq _ | exact aae (by decide)) | exact EQ.of EP.refl | exact EQ.of EP.refl.ac | ((first | refine EQ.em EP.refl ?_ ?_ ?_ ?_ ?_ | refine EQ.em EP.refl.ac ?_ ?_ ?_ ?_ ?_ | constructor)<;>(try dsimp only)<;>with_reducible first | assumption | exact aaG _ | exact aay _ | exact aaq _ | exact aae (by decide))))
   | (exfalso; omega)
 ·rw [if_neg (by omega),if_neg (by omega),if_neg (by omega),if_neg (by omega)]
  exact ar4 h hl ht
theorem asa (h:FrR K f) (hc:CfgOk e.c) (hi:0≤f.i∧f.i≤(e.c.subs.length:Int)):LfP K e f (ajv e f)∧(ajv e f).2.2.i=f.i:=by
 obtain ⟨ha_,hb_,hd_,hi_,hj_,hn_,ht_,hl_,hu_,hcap_,hln_⟩:=h.all
 have w1:=hc.w1
 have w2:=hc.w2
 have hw:Rg e.c.workers:=aae (by omega)
 unfold ajv
 repeat' split
 all_goals
  refine ⟨?_,rfl⟩
  (refine ⟨?_,rfl,?_,?_⟩<;>(try dsimp only [go,fin])<;>first | (with_reducible first | assumption | exact aaG _ | exact aay _ | exact aaq _ | exact aae (by decide)) | exact EQ.of EP.refl | exact EQ.of EP.refl.ac | ((first | refine EQ.em EP.refl ?_ ?_ ?_ ?_ ?_ | refine EQ.em EP.refl.ac ?_ ?_ ?_ ?_ ?_ | constructor)<;>(try dsimp only)<;>with_reducible first | assumption | exact aaG _ | exact aay _ | exact aaq _ | exact aae (by decide)))
end
def anl (k:Int):Nat:=if k=25∨k=26 then 4 else if k=24 then 3 else if k=15∨k=17∨k=18∨k=22∨k=23 then 2 else if k=5∨k=6 then 1 else 0
theorem aoW (k:Int):anl k≤4:=by
 unfold anl
 repeat' split
 all_goals omega
structure TopOk (c:Cfg) (f:FrV):Prop where
 run:f.kind=24→ala c f
 cl:f.kind=26→0≤f.i∧f.i≤(c.subs.length:Int)
 pr:f.kind=21→0≤f.i∧f.i≤c.workers
structure LiveOk (e:EnvV) (f:FrV):Prop where
 run:f.kind=24→f.l≠[]∧(f.line≠23→0≤aa7 f.l∧aa7 f.l<e.c.tasks)∧(f.line=3→ann e (aa7 f.l))
 cl:f.kind=26→0≤f.i∧f.i≤(e.c.subs.length:Int)
 pr:f.kind=21→0≤f.i∧f.i≤e.c.workers
structure ParOk (c:Cfg) (p ch:FrV):Prop where
 rk:anl ch.kind<anl p.kind
 run:p.kind=24→p.l≠[]∧(0≤aa7 p.l∧aa7 p.l<c.tasks)∧(p.line=5→ch.kind=12)∧p.line≠3∧p.line≠23
 cl:p.kind=26→0≤p.i∧p.i<(c.subs.length:Int)∧(p.line=3→ch.kind=12)
def PcP (e:EnvV) (p:FrV):Prop:=p.kind=24→p.line=5→ann e (aa7 p.l)
structure EnvOk (K:Nat) (e:EnvV):Prop where
 cf:CfgOk e.c
 rcs:asq K e.c e.recs
 evs:azC K e.evs
 now:Rg e.now
 draw:Rg e.draw
theorem EnvOk.le {K L:Nat} {e:EnvV} (h:EnvOk K e) (hl:K≤L):EnvOk L e:=⟨h.cf,h.rcs.le hl,h.evs.le hl,h.now,h.draw⟩
theorem EQ.ok {K:Nat} {e e':EnvV} (q:EQ K e e') (h:EnvOk K e):EnvOk (K+1) e':=⟨q.c▸h.cf,by rw [q.c]; exact q.rcs h.rcs,q.evs h.evs,q.now▸h.now,q.draw▸h.draw⟩
theorem EnvOk.fit {K:Nat} {e:EnvV} (h:EnvOk K e) (hK:K≤900000000):Fit e:=by have:=h.evs.1; unfold Fit; omega
structure LeafP (K:Nat) (e:EnvV) (f:FrV) (o:Lf):Prop where
 lf:LfP K e f o
 top:o.1.done=false→TopOk e.c o.2.2
 new:f.kind=12→o.1.done=true∧o.2.1.recs=e.recs∧(o.1.code=3∨(0≤o.1.value∧o.1.value<(e.recs.length:Int)))
section
variable {K:Nat} {e e':EnvV} {f:FrV}
theorem adr {c:Cfg} {g:FrV} (h1:g.kind≠24) (h2:g.kind≠26) (h3:g.kind≠21):TopOk c g:=⟨fun e =>absurd e h1,fun e =>absurd e h2,fun e =>absurd e h3⟩
theorem LeafP.of {o:Lf} (h:LfP K e f o) (h12:f.kind≠12) (h4:f.kind≠24) (h6:f.kind≠26) (h1:f.kind≠21):LeafP K e f o :=
 ⟨h,fun _ =>adr (by rw [h.kind]; exact h4) (by rw [h.kind]; exact h6) (by rw [h.kind]; exact h1),fun e =>absurd e h12⟩
theorem LiveOk.pre (hl:LiveOk e f) (h:FrR K f) (he:EnvOk K e) (hK:K≤900000000):LeafC e f:=⟨he.cf,he.fit hK,he.rcs.1,h.cap,fun hk =>by
  obtain ⟨h1,h2,h3⟩:=hl.run hk
  exact ⟨⟨h1,by have:=h.ln; omega⟩,fun e =>by have:=h2 e; have:=he.rcs.1; exact ⟨by omega,by omega⟩,h3⟩,fun hk =>(hl.cl hk).1,hl.pr⟩
theorem aqG (h:FrR K f) (he:EnvOk K e) (hl:LiveOk e f):LeafP K e f (afi e f):=by
 obtain ⟨ha_,hb_,hd_,hi_,hj_,hn_,ht_,hl_,hu_,hcap_,hln_⟩:=h.all
 have hn:=he.now
 unfold afi
 by_cases k0:f.kind=0
 ·simp only [k0,if_true,if_false,Int.reduceEq]
  exact LeafP.of (av2 h hn) (by rw [k0]; decide) (by rw [k0]; decide) (by rw [k0]; decide) (by rw [k0]; decide)
 by_cases k1:f.kind=1
 ·simp only [k1,if_true,if_false,Int.reduceEq]
  exact LeafP.of (ayh h hn) (by rw [k1]; decide) (by rw [k1]; decide) (by rw [k1]; decide) (by rw [k1]; decide)
 by_cases k2:f.kind=2
 ·simp only [k2,if_true,if_false,Int.reduceEq]
  exact LeafP.of (asD h hn) (by rw [k2]; decide) (by rw [k2]; decide) (by rw [k2]; decide) (by rw [k2]; decide)
 by_cases k3:f.kind=3
 ·simp only [k3,if_true,if_false,Int.reduceEq]
  refine LeafP.of ?_ (by rw [k3]; decide) (by rw [k3]; decide) (by rw [k3]; decide) (by rw [k3]; decide)
  (repeat' split)<;>exact ⟨by dsimp only [go,fin]; (constructor<;>(try dsimp only)<;>with_reducible first | assumption | exact aaG _ | exact aay _ | exact aaq _ | exact aae (by decide)),(by first | rfl | exact k3.symm),by dsimp only [go,fin]; (with_reducible first | assumption | exact aaG _ | exact aay _ | exact aaq _ | exact aae (by decide)),by dsimp only [go,fin]; (first | with_reducible exact EQ.of EP.refl | with_reducible exact EQ.of EP.refl.ac | (refine EQ.em (by first | with_reducible exact EP.refl | with_reducible exact EP.refl.ac) ?_ ?_ ?_ ?_ ?_<;>(with_reducible first | assumption | exact aaG _ | exact aay _ | exact aaq _ | exact aae (by decide))))⟩
 by_cases k4:f.kind=4
 ·simp only [k4,if_true,if_false,Int.reduceEq]
  exact LeafP.of (auM h hn) (by rw [k4]; decide) (by rw [k4]; decide) (by rw [k4]; decide) (by rw [k4]; decide)
 by_cases k6:f.kind=6
 ·simp only [k6,if_true,if_false,Int.reduceEq]
  refine LeafP.of ?_ (by rw [k6]; decide) (by rw [k6]; decide) (by rw [k6]; decide) (by rw [k6]; decide)
  (repeat' split)<;>exact ⟨by dsimp only [go,fin]; (constructor<;>(try dsimp only)<;>with_reducible first | assumption | exact aaG _ | exact aay _ | exact aaq _ | exact aae (by decide)),(by first | rfl | exact k6.symm),by dsimp only [go,fin]; (with_reducible first | assumption | exact aaG _ | exact aay _ | exact aaq _ | exact aae (by decide)),by dsimp only [go,fin]; (first | with_reducible exact EQ.of EP.refl | with_reducible exact EQ.of EP.refl.ac | (refine EQ.em (by first | with_reducible exact EP.refl | with_reducible exact EP.refl.ac) ?_ ?_ ?_ ?_ ?_<;>(with_reducible first | assumption | exact aaG _ | exact aay _ | exact aaq _ | exact aae (by decide))))⟩
 by_cases k7:f.kind=7
 ·simp only [k7,if_true,if_false,Int.reduceEq]
  refine LeafP.of ?_ (by rw [k7]; decide) (by rw [k7]; decide) (by rw [k7]; decide) (by rw [k7]; decide)
  (repeat' split)<;>exact ⟨by dsimp only [go,fin]; (constructor<;>(try dsimp only)<;>with_reducible first | assumption | exact aaG _ | exact aay _ | exact aaq _ | exact aae (by decide)),(by first | rfl | exact k7.symm),by dsimp only [go,fin]; (with_reducible first | assumption | exact aaG _ | exact aay _ | exact aaq _ | exact aae (by decide)),by dsimp only [go,fin]; (first | with_reducible exact EQ.of EP.refl | with_reducible exact EQ.of EP.refl.ac | (refine EQ.em (by first | with_reducible exact EP.refl | with_reducible exact EP.refl.ac) ?_ ?_ ?_ ?_ ?_<;>(with_reducible first | assumption | exact aaG _ | exact aay _ | exact aaq _ | exact aae (by decide))))⟩
 by_cases k8:f.kind=8
 ·simp only [k8,if_true,if_false,Int.reduceEq]
  refine LeafP.of ?_ (by rw [k8]; decide) (by rw [k8]; decide) (by rw [k8]; decide) (by rw [k8]; decide)
  (repeat' split)<;>exact ⟨by dsimp only [go,fin]; (constructor<;>(try dsimp only)<;>with_reducible first | assumption | exact aaG _ | exact aay _ | exact aaq _ | exact aae (by decide)),(by first | rfl | exact k8.symm),by dsimp only [go,fin]; (with_reducible first | assumption | exact aaG _ | exact aay _ | exact aaq _ | exact aae (by decide)),by dsimp only [go,fin]; (first | with_reducible exact EQ.of EP.refl | with_reducible exact EQ.of EP.refl.ac | (refine EQ.em (by first | with_reducible exact EP.refl | with_reducible exact EP.refl.ac) ?_ ?_ ?_ ?_ ?_<;>(with_reducible first | assumption | exact aaG _ | exact aay _ | exact aaq _ | exact aae (by decide))))⟩
 by_cases k9:f.kind=9
 ·simp only [k9,if_true,if_false,Int.reduceEq]
  refine LeafP.of ?_ (by rw [k9]; decide) (by rw [k9]; decide) (by rw [k9]; decide) (by rw [k9]; decide)
  (repeat' split)<;>exact ⟨by dsimp only [go,fin]; (constructor<;>(try dsimp only)<;>with_reducible first | assumption | exact aaG _ | exact aay _ | exact aaq _ | exact aae (by decide)),(by first | rfl | exact k9.symm),by dsimp only [go,fin]; (with_reducible first | assumption | exact aaG _ | exact aay _ | exact aaq _ | exact aae (by decide)),by dsimp only [go,fin]; (first | with_reducible exact EQ.of EP.refl | with_reducible exact EQ.of EP.refl.ac | (refine EQ.em (by first | with_reducible exact EP.refl | with_reducible exact EP.refl.ac) ?_ ?_ ?_ ?_ ?_<;>(with_reducible first | assumption | exact aaG _ | exact aay _ | exact aaq _ | exact aae (by decide))))⟩
 by_cases k10:f.kind=10
 ·simp only [k10,if_true,if_false,Int.reduceEq]
  exact LeafP.of (ar0 h hn) (by rw [k10]; decide) (by rw [k10]; decide) (by rw [k10]; decide) (by rw [k10]; decide)
 by_cases k11:f.kind=11
 ·simp only [k11,if_true,if_false,Int.reduceEq]
  exact LeafP.of (arq h hn) (by rw [k11]; decide) (by rw [k11]; decide) (by rw [k11]; decide) (by rw [k11]; decide)
 by_cases k12:f.kind=12
 ·simp only [k12,if_true,if_false,Int.reduceEq]
  obtain ⟨a1,a2,a3,a4⟩:=ava (e:=e) h
  exact ⟨a1,fun e =>(by rw [a2] at e; cases e),fun _ =>⟨a2,a3,a4.imp id fun t =>⟨t.1,t.2.2⟩⟩⟩
 by_cases k13:f.kind=13
 ·simp only [k13,if_true,if_false,Int.reduceEq]
  exact LeafP.of (apc h hn) (by rw [k13]; decide) (by rw [k13]; decide) (by rw [k13]; decide) (by rw [k13]; decide)
 by_cases k14:f.kind=14
 ·simp only [k14,if_true,if_false,Int.reduceEq]
  exact LeafP.of (auO h) (by rw [k14]; decide) (by rw [k14]; decide) (by rw [k14]; decide) (by rw [k14]; decide)
 by_cases k15:f.kind=15
 ·simp only [k15,if_true,if_false,Int.reduceEq]
  exact LeafP.of (ar7 h hn) (by rw [k15]; decide) (by rw [k15]; decide) (by rw [k15]; decide) (by rw [k15]; decide)
 by_cases k16:f.kind=16
 ·simp only [k16,if_true,if_false,Int.reduceEq]
  exact LeafP.of (as2 h hn) (by rw [k16]; decide) (by rw [k16]; decide) (by rw [k16]; decide) (by rw [k16]; decide)
 by_cases k17:f.kind=17
 ·simp only [k17,if_true,if_false,Int.reduceEq]
  exact LeafP.of (avl h hn) (by rw [k17]; decide) (by rw [k17]; decide) (by rw [k17]; decide) (by rw [k17]; decide)
 by_cases k18:f.kind=18
 ·simp only [k18,if_true,if_false,Int.reduceEq]
  exact LeafP.of (asy h hn) (by rw [k18]; decide) (by rw [k18]; decide) (by rw [k18]; decide) (by rw [k18]; decide)
 by_cases k19:f.kind=19
 ·simp only [k19,if_true,if_false,Int.reduceEq]
  exact LeafP.of (asF h hn) (by rw [k19]; decide) (by rw [k19]; decide) (by rw [k19]; decide) (by rw [k19]; decide)
 by_cases k20:f.kind=20
 ·simp only [k20,if_true,if_false,Int.reduceEq]
  exact LeafP.of (avm h hn) (by rw [k20]; decide) (by rw [k20]; decide) (by rw [k20]; decide) (by rw [k20]; decide)
 by_cases k21:f.kind=21
 ·simp only [k21,if_true,if_false,Int.reduceEq]
  obtain ⟨a1,a2⟩:=att h he.cf he.draw (hl.pr k21)
  exact ⟨a1,fun e =>⟨fun e' =>(by rw [a1.kind,k21] at e'; cases e'),fun e' =>(by rw [a1.kind,k21] at e'; cases e'),fun _ =>a2 e⟩,fun e =>(by rw [k21] at e; cases e)⟩
 by_cases k22:f.kind=22
 ·simp only [k22,if_true,if_false,Int.reduceEq]
  exact LeafP.of (auy h hn) (by rw [k22]; decide) (by rw [k22]; decide) (by rw [k22]; decide) (by rw [k22]; decide)
 by_cases k24:f.kind=24
 ·simp only [k24,if_true,if_false,Int.reduceEq]
  obtain ⟨r1,r2,r3⟩:=hl.run k24
  obtain ⟨a1,a2⟩:=axZ h r1 r2
  exact ⟨a1,fun e =>⟨fun _ =>a2 e,fun e' =>(by rw [a1.kind,k24] at e'; cases e'),fun e' =>by rw [a1.kind,k24] at e'; cases e'⟩,fun e =>by rw [k24] at e; cases e⟩
 by_cases k26:f.kind=26
 ·simp only [k26,if_true,if_false,Int.reduceEq]
  obtain ⟨a1,a2⟩:=asa h he.cf (hl.cl k26)
  exact ⟨a1,fun _ =>⟨fun e' =>(by rw [a1.kind,k26] at e'; cases e'),fun _ =>by rw [a2]; exact hl.cl k26,fun e' =>by rw [a1.kind,k26] at e'; cases e'⟩,fun e =>by rw [k26] at e; cases e⟩
 simp only [k0,k1,k2,k3,k4,k6,k7,k8,k9,k10,k11,k12,k13,k14,k15,k16,k17,k18,k19,k20,k21,k22,k24,k26,if_false]
 exact LeafP.of ⟨h.up,rfl,rg0,EQ.of EP.refl⟩ k12 k24 k26 k21
theorem aca {c:Cfg} (hc:CfgOk c) (w l:Int):(aiG c w l).cap≤9223372036854775807:=by
 have:=hc.q2
 unfold aiG
 repeat' split
 all_goals first | decide | (show c.deque≤_; omega)
theorem acd {c:Cfg} (w:Int):Rg (abX c w):=by
 unfold abX ixA
 repeat' split
 all_goals first | exact aae (by decide) | exact aaG _
structure EntP (K:Nat) (e:EnvV) (f:FrV) (o:Option FrV×FrV):Prop where
 fr:FrR K o.2
 kind:o.2.kind=f.kind
 no:o.1=none→LiveOk e o.2
 yes:∀ ch,o.1=some ch→FrR K { ch with line:=1 }∧TopOk e.c { ch with line:=1 }∧ParOk e.c o.2 ch∧PcP e o.2
theorem EntP.stop {f':FrV} (h:FrR K f') (hk:f'.kind=f.kind) (hl:LiveOk e f'):EntP K e f (none,f'):=⟨h,hk,fun _ =>hl,fun _ e =>by cases e⟩
theorem EntP.go {f' ch:FrV} (h:FrR K f') (hk:f'.kind=f.kind) (h1:FrR K { ch with line:=1 }) (h2:TopOk e.c { ch with line:=1 }) (h3:ParOk e.c f' ch) (h4:PcP e f'):EntP K e f (some ch,f'):=⟨h,hk,fun e =>(by cases e),fun _ e =>by cases e; exact ⟨h1,h2,h3,h4⟩⟩
theorem EntP.plain {f' ch:FrV} (h:FrR K f') (hk:f'.kind=f.kind) (h1:FrR K { ch with line:=1 }) (n4:f.kind≠24) (n6:f.kind≠26) (h2:TopOk e.c { ch with line:=1 }) (hr:anl ch.kind<anl f.kind):EntP K e f (some ch,f') :=
 EntP.go h hk h1 h2 ⟨by rw [hk]; exact hr,fun e =>absurd (hk.symm.trans e) n4,fun e =>absurd (hk.symm.trans e) n6⟩ fun e =>absurd (hk.symm.trans e) n4
theorem ajl (n4:f.kind≠24) (n6:f.kind≠26) (n1:f.kind≠21):LiveOk e f:=⟨fun e =>absurd e n4,fun e =>absurd e n6,fun e =>absurd e n1⟩
structure ChP (K:Nat) (e:EnvV) (f g:FrV):Prop where
 fr:FrR K g
 kind:g.kind=f.kind
 ne:g.l≠[]
 top:g.line≠23→0≤aa7 g.l∧aa7 g.l<e.c.tasks
 pc:g.line=3∨g.line=5→ann e (aa7 g.l)
theorem asb (h:FrR K f) (he:EnvOk K e) (ht:ala e.c f):ChP K e f (afH e f):=by
 obtain ⟨ha_,hb_,hd_,hi_,hj_,hn_,ht_,hl_,hu_,hcap_,hln_⟩:=h.all
 obtain ⟨hl,h3,h5,h23,htop⟩:=ht
 have hc:=he.cf
 unfold afH
 by_cases l1:f.line≠1
 ·rw [if_pos l1]; exact ⟨h,rfl,hl,fun _ =>htop l1,fun e =>by omega⟩
 rw [if_neg l1]
 by_cases hT:¬ acm e (aa7 f.l)
 ·rw [if_pos hT]
  exact ⟨by (constructor<;>(try dsimp only [frK])<;>first | with_reducible assumption | with_reducible exact aaG _ | exact aae (by decide) | exact Nat.zero_le _ | exact aca hc _ _ | exact acd _ | (intro x hx; cases hx; done) | decide),rfl,hl,fun e =>absurd rfl e,fun e =>by rcases e with e | e<;>cases e⟩
 rw [if_neg hT]
 have hT:acm e (aa7 f.l):=by simpa using hT
 have hT2:0≤aa7 f.l∧aa7 f.l<e.c.tasks:=⟨hT.1,hT.2.1⟩
 have mk:∀ n:Int,n≠3→n≠5→ChP K e f { f with line:=n }:=fun n h3 h5 =>⟨by (constructor<;>(try dsimp only [frK])<;>first | with_reducible assumption | with_reducible exact aaG _ | exact aae (by decide) | exact Nat.zero_le _ | exact aca hc _ _ | exact acd _ | (intro x hx; cases hx; done) | decide),rfl,hl,fun _ =>hT2,fun e =>by rcases e with e | e<;>first | exact absurd e h3 | exact absurd e h5⟩
 by_cases hw:(e.rc (aa7 f.l)).waiting ≠ -1
 ·rw [if_pos hw]; exact mk 2 (by decide) (by decide)
 rw [if_neg hw]
 by_cases hpc:(e.rc (aa7 f.l)).pc<0∨((e.prog (aa7 f.l)).length:Int)≤(e.rc (aa7 f.l)).pc
 ·rw [if_pos hpc]; exact mk 17 (by decide) (by decide)
 rw [if_neg hpc]
 have hP:ann e (aa7 f.l):=by
  refine ⟨?_,by omega,by omega⟩
  by_cases hp:(e.rc (aa7 f.l)).prog<0∨(e.c.progs.length:Int)≤(e.rc (aa7 f.l)).prog
  ·exfalso
   have e0:e.prog (aa7 f.l)=[]:=by unfold EnvV.prog; rw [if_pos hp]
   rw [e0] at hpc
   simp at hpc
   omega
  ·omega
 have mk2:∀ n:Int,ChP K e f { f with line:=n }:=fun n =>⟨by (constructor<;>(try dsimp only [frK])<;>first | with_reducible assumption | with_reducible exact aaG _ | exact aae (by decide) | exact Nat.zero_le _ | exact aca hc _ _ | exact acd _ | (intro x hx; cases hx; done) | decide),rfl,hl,fun _ =>hT2,fun _ =>hP⟩
 split
 ·exact mk2 3
 split
 ·exact mk2 5
 split
 ·rename_i o0 o1 hk
  have ha:=aAI hc hP o0 o1
  have hj:Rg (aaf (e.rc (aa7 f.l)).kids (e.ins (aa7 f.l)).a):=(asY he.rcs (aa7 f.l)).2 _ (alm ⟨ha,hk.1⟩)
  exact ⟨by (constructor<;>(try dsimp only [frK])<;>first | with_reducible assumption | with_reducible exact aaG _ | exact aae (by decide) | exact Nat.zero_le _ | exact aca hc _ _ | exact acd _ | (intro x hx; cases hx; done) | decide),rfl,hl,fun _ =>hT2,fun _ =>hP⟩
 ·exact mk 4 (by decide) (by decide)
theorem avI {g:FrV} (hg:ChP K e f g) (hk:f.kind=24):EntP K e f (azq g,g):=by
  have h:=hg.fr
  obtain ⟨ha_,hb_,hd_,hi_,hj_,hn_,ht_,hl_,hu_,hcap_,hln_⟩:=h.all
  have hgk:g.kind=24:=hg.kind.trans hk
  have hp:∀ ch:FrV,g.line≠23→g.line≠3→anl ch.kind<3→(g.line=5→ch.kind=12)→ParOk e.c g ch:=fun ch h1 h4 h2 h3 =>⟨by rw [hgk]; exact h2,fun _ =>⟨hg.ne,hg.top h1,h3,h4,h1⟩,fun e =>by rw [hgk] at e; cases e⟩
  have hq:PcP e g:=fun _ e =>hg.pc (.inr e)
  have hno:LiveOk e g:=⟨fun _ =>⟨hg.ne,hg.top,fun e =>hg.pc (.inl e)⟩,fun e =>(by rw [hgk] at e; cases e),fun e =>by rw [hgk] at e; cases e⟩
  have hc:CfgOk e.c→True:=fun _ =>trivial
  unfold azq
  repeat' split
  all_goals first
    | exact EntP.stop h hg.kind hno
    | (refine EntP.go h hg.kind ?_ (adr (by dsimp only [frK]; decide) (by dsimp only [frK]; decide) (by dsimp only [frK]; decide)) (hp _ (by omega) (by omega) (by dsimp only [frK]; decide) ?_) hq
       · (constructor<;>(try dsimp only [frK])<;>first | with_reducible assumption | exact aae (by decide) | exact Nat.zero_le _ | (intro x hx; cases hx; done) | decide)
       · first | (intro _; rfl) | (intro e; omega))
theorem aor (h:FrR K f) (he:EnvOk K e) (ht:TopOk e.c f) (hK1:1≤K):EntP K e f (aiO e f):=by
 obtain ⟨ha_,hb_,hd_,hi_,hj_,hn_,ht_,hl_,hu_,hcap_,hln_⟩:=h.all
 have hc:=he.cf
 have w1:=hc.w1
 have w2:=hc.w2
 unfold aiO
 by_cases k5:f.kind=5
 ·simp only [k5,if_true,if_false,Int.reduceEq]
  split<;>exact EntP.plain h rfl (by (constructor<;>(try dsimp only [frK])<;>first | with_reducible assumption | with_reducible exact aaG _ | exact aae (by decide) | exact Nat.zero_le _ | exact aca hc _ _ | exact acd _ | (intro x hx; cases hx; done) | decide)) (by rw [k5]; decide) (by rw [k5]; decide) (adr (by dsimp only [frK]; decide) (by dsimp only [frK]; decide) (by dsimp only [frK]; decide)) (by rw [k5]; dsimp only [frK]; decide)
 by_cases k6:f.kind=6
 ·simp only [k6,if_true,if_false,Int.reduceEq]
  (repeat' split)<;>first | exact EntP.plain h rfl (by (constructor<;>(try dsimp only [frK])<;>first | with_reducible assumption | with_reducible exact aaG _ | exact aae (by decide) | exact Nat.zero_le _ | exact aca hc _ _ | exact acd _ | (intro x hx; cases hx; done) | decide)) (by rw [k6]; decide) (by rw [k6]; decide) (adr (by dsimp only [frK]; decide) (by dsimp only [frK]; decide) (by dsimp only [frK]; decide)) (by rw [k6]; dsimp only [frK]; decide) | exact EntP.stop h rfl (ajl (by rw [k6]; decide) (by rw [k6]; decide) (by rw [k6]; decide))
 by_cases k15:f.kind=15
 ·simp only [k15,if_true,if_false,Int.reduceEq]
  (repeat' split)<;>first | exact EntP.plain h rfl (by (constructor<;>(try dsimp only [frK])<;>first | with_reducible assumption | with_reducible exact aaG _ | exact aae (by decide) | exact Nat.zero_le _ | exact aca hc _ _ | exact acd _ | (intro x hx; cases hx; done) | decide)) (by rw [k15]; decide) (by rw [k15]; decide) (adr (by dsimp only [frK]; decide) (by dsimp only [frK]; decide) (by dsimp only [frK]; decide)) (by rw [k15]; dsimp only [frK]; decide) | exact EntP.stop h rfl (ajl (by rw [k15]; decide) (by rw [k15]; decide) (by rw [k15]; decide))
 by_cases k17:f.kind=17
 ·simp only [k17,if_true,if_false,Int.reduceEq]
  (repeat' split)<;>first | exact EntP.plain h rfl (by (constructor<;>(try dsimp only [frK])<;>first | with_reducible assumption | with_reducible exact aaG _ | exact aae (by decide) | exact Nat.zero_le _ | exact aca hc _ _ | exact acd _ | (intro x hx; cases hx; done) | decide)) (by rw [k17]; decide) (by rw [k17]; decide) (adr (by dsimp only [frK]; decide) (by dsimp only [frK]; decide) (by dsimp only [frK]; decide)) (by rw [k17]; dsimp only [frK]; decide) | exact EntP.stop h rfl (ajl (by rw [k17]; decide) (by rw [k17]; decide) (by rw [k17]; decide))
 by_cases k18:f.kind=18
 ·simp only [k18,if_true,if_false,Int.reduceEq]
  (repeat' split)<;>first | exact EntP.plain h rfl (by (constructor<;>(try dsimp only [frK])<;>first | with_reducible assumption | with_reducible exact aaG _ | exact aae (by decide) | exact Nat.zero_le _ | exact aca hc _ _ | exact acd _ | (intro x hx; cases hx; done) | decide)) (by rw [k18]; decide) (by rw [k18]; decide) (adr (by dsimp only [frK]; decide) (by dsimp only [frK]; decide) (by dsimp only [frK]; decide)) (by rw [k18]; dsimp only [frK]; decide) | exact EntP.stop h rfl (ajl (by rw [k18]; decide) (by rw [k18]; decide) (by rw [k18]; decide))
 by_cases k22:f.kind=22
 ·simp only [k22,if_true,if_false,Int.reduceEq]
  unfold aot
  (repeat' split)<;>first | exact EntP.plain h rfl (by (constructor<;>(try dsimp only [frK])<;>first | with_reducible assumption | with_reducible exact aaG _ | exact aae (by decide) | exact Nat.zero_le _ | exact aca hc _ _ | exact acd _ | (intro x hx; cases hx; done) | decide)) (by rw [k22]; decide) (by rw [k22]; decide) (adr (by dsimp only [frK]; decide) (by dsimp only [frK]; decide) (by dsimp only [frK]; decide)) (by rw [k22]; dsimp only [frK]; decide) | exact EntP.stop h rfl (ajl (by rw [k22]; decide) (by rw [k22]; decide) (by rw [k22]; decide))
 by_cases k23:f.kind=23
 ·simp only [k23,if_true,if_false,Int.reduceEq]
  (repeat' split)<;>exact EntP.plain h rfl (by (constructor<;>(try dsimp only [frK])<;>first | with_reducible assumption | with_reducible exact aaG _ | exact aae (by decide) | exact Nat.zero_le _ | exact aca hc _ _ | exact acd _ | (intro x hx; cases hx; done) | decide)) (by rw [k23]; decide) (by rw [k23]; decide) (adr (by dsimp only [frK]; decide) (by dsimp only [frK]; decide) (by dsimp only [frK]; decide)) (by rw [k23]; dsimp only [frK]; decide)
 by_cases k24:f.kind=24
 ·simp only [k24,if_true,if_false,Int.reduceEq]
  exact avI (asb h he (ht.run k24)) k24
 by_cases k25:f.kind=25
 ·simp only [k25,if_true,if_false,Int.reduceEq]
  have hb:FrR K (af1 e f)∧(af1 e f).kind=f.kind:=by
   unfold af1; split
   ·exact ⟨by (constructor<;>(try dsimp only [frK])<;>first | with_reducible assumption | with_reducible exact aaG _ | exact aae (by decide) | exact Nat.zero_le _ | exact aca hc _ _ | exact acd _ | (intro x hx; cases hx; done) | decide),rfl⟩
   ·exact ⟨h,rfl⟩
  have hk:=hb.2
  generalize af1 e f=g at hb hk
  have h:=hb.1
  obtain ⟨ha_,hb_,hd_,hi_,hj_,hn_,ht_,hl_,hu_,hcap_,hln_⟩:=h.all
  unfold amd
  have hl:∀ x∈[g.n],Rg x:=fun x hx =>by rw [List.mem_singleton] at hx; subst hx; exact h.n
  have hl1:[g.n].length≤K:=hK1
  by_cases l4:g.line=4
  ·simp only [l4,if_true,if_false,Int.reduceEq]
   exact EntP.plain h hk (by (constructor<;>(try dsimp only [frK])<;>first | with_reducible assumption | with_reducible exact aaG _ | exact aae (by decide) | exact Nat.zero_le _ | exact aca hc _ _ | exact acd _ | (intro x hx; cases hx; done) | decide)) (by rw [k25]; decide) (by rw [k25]; decide) ⟨fun e =>(by cases e),fun e =>(by cases e),fun _ =>⟨Int.le_refl 0,(by show (0:Int)≤e.c.workers; omega)⟩⟩ (by rw [k25]; dsimp only [frK]; decide)
  by_cases l7:g.line=7
  ·simp only [l7,if_true,if_false,Int.reduceEq]
   exact EntP.plain h hk (by (constructor<;>(try dsimp only [frK])<;>first | with_reducible assumption | with_reducible exact aaG _ | exact aae (by decide) | exact Nat.zero_le _ | exact aca hc _ _ | exact acd _ | (intro x hx; cases hx; done) | decide)) (by rw [k25]; decide) (by rw [k25]; decide) ⟨fun _ =>⟨by simp,by simp,by simp,by simp,fun e =>absurd rfl e⟩,fun e =>(by cases e),fun e =>by cases e⟩ (by rw [k25]; dsimp only [frK]; decide)
  simp only [if_neg l4,if_neg l7]
  (repeat' split)<;>exact EntP.plain h hk (by (constructor<;>(try dsimp only [frK])<;>first | with_reducible assumption | with_reducible exact aaG _ | exact aae (by decide) | exact Nat.zero_le _ | exact aca hc _ _ | exact acd _ | (intro x hx; cases hx; done) | decide)) (by rw [k25]; decide) (by rw [k25]; decide) (adr (by dsimp only [frK]; decide) (by dsimp only [frK]; decide) (by dsimp only [frK]; decide)) (by rw [k25]; dsimp only [frK]; decide)
 by_cases k26:f.kind=26
 ·simp only [k26,if_true,if_false,Int.reduceEq]
  have hi:=ht.cl k26
  have hno:LiveOk e f:=⟨fun e =>(by rw [k26] at e; cases e),fun _ =>hi,fun e =>by rw [k26] at e; cases e⟩
  unfold ak4
  by_cases hs:(e.c.subs.length:Int)≤f.i
  ·rw [if_pos hs]; exact EntP.stop h rfl hno
  rw [if_neg hs]
  have hsub:=hc.sub _ (alm (d:=dfR 4) (xs:=e.c.subs) (i:=f.i) ⟨hi.1,Int.not_le.1 hs⟩)
  have hs1:Rg (e.sub f.i).level:=hsub.1
  have hs2:Rg (e.sub f.i).deadline:=hsub.2.1
  have hw:Rg e.c.workers:=aae (by omega)
  have hp:∀ g:FrV,anl g.kind<4→(f.line=3→g.kind=12)→ParOk e.c f g:=fun g h1 h3 =>⟨by rw [k26]; exact h1,fun e =>(by rw [k26] at e; cases e),fun _ =>⟨hi.1,by omega,h3⟩⟩
  have hq:PcP e f:=fun e =>by rw [k26] at e; cases e
  (repeat' split)<;>first
   | exact EntP.stop h rfl hno
   | exact EntP.go h rfl (by (constructor<;>(try dsimp only [frK])<;>first | with_reducible assumption | with_reducible exact aaG _ | exact aae (by decide) | exact Nat.zero_le _ | exact aca hc _ _ | exact acd _ | (intro x hx; cases hx; done) | decide)) (adr (by dsimp only [frK]; decide) (by dsimp only [frK]; decide) (by dsimp only [frK]; decide)) (hp _ (by dsimp only [frK]; decide) (by first | (intro _; rfl) | (intro e; omega))) hq
 by_cases k21:f.kind=21
 ·simp only [k21,if_false,Int.reduceEq]
  exact EntP.stop h rfl ⟨fun e =>(by rw [k21] at e; cases e),fun e =>(by rw [k21] at e; cases e),ht.pr⟩
 simp only [k5,k6,k15,k17,k18,k22,k23,k24,k25,k26,if_false]
 exact EntP.stop h rfl (ajl k24 k26 k21)
end
end
end Go.Proofs.YtkmkhldmflebkaaGreat
