/- What the reference's functions answer is what was said plainly,1. The machines of the reference,said plainly,2: probing,choosing,entering,going back,a step. No program occurs here. What the reference's functions answer is what was said plainly,2. What the reference's functions answer is what was said plainly,3. What the reference's functions answer is what was said plainly,4. What always holds of the reference's machines,1: lines. No program occurs here. -/
import Derived.Test.YtjjbdbbmdhncjaaGreatSzaj
import Derived.Test.YtjjbdbbmdhncjaaGreatSzak
set_option linter.all false
namespace Go.Proofs.YtjjbdbbmdhncjaaGreat
section
open Go
def Fit (e:EnvV):Prop:=e.evs.length<999999999999
theorem adw {e:EnvV} (h:Fit e) (k w t o l:Int):aaX e k w t o l=some ((()),(e.em k w t o l,())):=by
 unfold aaX EnvV.em
 unfold Fit at h
 rw [if_pos (by simp; omega)]
theorem agN {e:EnvV} {m:MemV} (h:Fit e) (k w t o l:Int):aaX { e with m:=m } k w t o l=some ((()),(({ e with m:=m }:EnvV).em k w t o l,())):=adw (e:={ e with m:=m }) h k w t o l
theorem agM {e:EnvV} {m:MemV} {rs:List RecV} (h:Fit e) (k w t o l:Int):aaX { e with m:=m,recs:=rs } k w t o l=some ((()),(({ e with m:=m,recs:=rs }:EnvV).em k w t o l,())):=adw (e:={ e with m:=m,recs:=rs }) h k w t o l
theorem aA1 {x:Int} (h:¬ x<1) (h2:x≤9223372036854775807):wu x≠0:=by
 have:wu x=x:=avb (by omega) (by omega)
 rw [this]; omega
theorem w2:wi 2=2:=rfl
theorem w3:wi 3=3:=rfl
theorem w4:wi 4=4:=rfl
theorem w5:wi 5=5:=rfl
theorem w6:wi 6=6:=rfl
theorem w7:wi 7=7:=rfl
theorem w8:wi 8=8:=rfl
theorem w9:wi 9=9:=rfl
section
variable {e:EnvV} {f:FrV}
theorem ayw (hq:f.q.cap≤9223372036854775807):an5 e f=some (aeO (akl e f)):=by
 have hq2:=@aA1 f.q.cap; unfold an5 akl
 simp only [abI,abQ,abp,abr,abR,abo,abq,aaO,aaT,abt,abd,ab7,abi,abS,aa8,abj,acf,abu,abD,Option.bind_some,if_true,abV,aeO,go,fin,EnvV.ac,EnvV.rd,EnvV.hit,EnvV.em,szV,acN,acY,adn,acL,ae5,EnvV.put,EnvV.rc,aeq,EnvV.sub]
 repeat' split
 all_goals first | rfl | omega | (simp_all (config:={ maxSteps:=2000000 }) [w2,w3,w4,w5,w6,w7,w8,w9]; done) | (simp_all (config:={ maxSteps:=2000000 }) [w2,w3,w4,w5,w6,w7,w8,w9]; omega)
theorem asg:ahT e f=some (aeO (akI e f)):=by
 unfold ahT akI
 simp only [abI,abQ,abp,abr,abR,abo,abq,aaO,aaT,abt,abd,ab7,abi,abS,aa8,abj,acf,abu,abD,Option.bind_some,if_true,abV,aeO,go,fin,EnvV.ac,EnvV.rd,EnvV.hit,EnvV.em,szV,acN,acY,adn,acL,ae5,EnvV.put,EnvV.rc,aeq,EnvV.sub]
 repeat' split
 all_goals first | rfl | omega | (simp_all (config:={ maxSteps:=2000000 }) [w2,w3,w4,w5,w6,w7,w8,w9]; done) | (simp_all (config:={ maxSteps:=2000000 }) [w2,w3,w4,w5,w6,w7,w8,w9]; omega)
theorem aBK (hq:f.q.cap≤9223372036854775807):asT e f=some (aeO (ap2 e f)):=by
 have hq2:=@aA1 f.q.cap; unfold asT ap2
 simp only [abI,abQ,abp,abr,abR,abo,abq,aaO,aaT,abt,abd,ab7,abi,abS,aa8,abj,acf,abu,abD,Option.bind_some,if_true,abV,aeO,go,fin,EnvV.ac,EnvV.rd,EnvV.hit,EnvV.em,szV,acN,acY,adn,acL,ae5,EnvV.put,EnvV.rc,aeq,EnvV.sub]
 repeat' split
 all_goals first | rfl | omega | (simp_all (config:={ maxSteps:=2000000 }) [w2,w3,w4,w5,w6,w7,w8,w9]; done) | (simp_all (config:={ maxSteps:=2000000 }) [w2,w3,w4,w5,w6,w7,w8,w9]; omega)
theorem aw3:ai5 e f=some (aeO (ahz e f)):=by
 unfold ai5 ahz
 simp only [abI,abQ,abp,abr,abR,abo,abq,aaO,aaT,abt,abd,ab7,abi,abS,aa8,abj,acf,abu,abD,Option.bind_some,if_true,abV,aeO,go,fin,EnvV.ac,EnvV.rd,EnvV.hit,EnvV.em,szV,acN,acY,adn,acL,ae5,EnvV.put,EnvV.rc,aeq,EnvV.sub]
 repeat' split
 all_goals first | rfl | omega | (simp_all (config:={ maxSteps:=2000000 }) [w2,w3,w4,w5,w6,w7,w8,w9]; done) | (simp_all (config:={ maxSteps:=2000000 }) [w2,w3,w4,w5,w6,w7,w8,w9]; omega)
theorem avT (hE:Fit e):ai3 e f=some (aeO (ahj e f)):=by
 unfold ai3 ahj
 simp only [abI,abQ,abp,abr,abR,abo,abq,aaO,aaT,abt,abd,ab7,abi,abS,aa8,abj,acf,abu,abD,Option.bind_some,if_true,abV,aeO,go,fin,EnvV.ac,EnvV.rd,EnvV.hit,EnvV.em,szV,acN,acY,adn,acL,ae5,EnvV.put,EnvV.rc,aeq,EnvV.sub,adw,agN hE,agM hE]
 by_cases h1:f.line=1
 ·simp only [if_pos h1]
  try simp only [h1]
  repeat' split
  all_goals first | rfl | omega | (simp_all (config:={ maxSteps:=400000 }) [w2,w3,w4,w5,w6,w7,w8,w9]; done) | (simp_all (config:={ maxSteps:=400000 }) [w2,w3,w4,w5,w6,w7,w8,w9]; omega)
 by_cases h2:f.line=2
 ·simp only [if_neg h1,if_pos h2]
  try simp only [h2]
  repeat' split
  all_goals first | rfl | omega | (simp_all (config:={ maxSteps:=400000 }) [w2,w3,w4,w5,w6,w7,w8,w9]; done) | (simp_all (config:={ maxSteps:=400000 }) [w2,w3,w4,w5,w6,w7,w8,w9]; omega)
 by_cases h3:f.line=3
 ·simp only [if_neg h1,if_neg h2,if_pos h3]
  try simp only [h3]
  repeat' split
  all_goals first | rfl | omega | (simp_all (config:={ maxSteps:=400000 }) [w2,w3,w4,w5,w6,w7,w8,w9]; done) | (simp_all (config:={ maxSteps:=400000 }) [w2,w3,w4,w5,w6,w7,w8,w9]; omega)
 by_cases h4:f.line=4
 ·simp only [if_neg h1,if_neg h2,if_neg h3,if_pos h4]
  try simp only [h4]
  repeat' split
  all_goals first | rfl | omega | (simp_all (config:={ maxSteps:=400000 }) [w2,w3,w4,w5,w6,w7,w8,w9]; done) | (simp_all (config:={ maxSteps:=400000 }) [w2,w3,w4,w5,w6,w7,w8,w9]; omega)
 by_cases h5:f.line=5
 ·simp only [if_neg h1,if_neg h2,if_neg h3,if_neg h4,if_pos h5]
  try simp only [h5]
  repeat' split
  all_goals first | rfl | omega | (simp_all (config:={ maxSteps:=400000 }) [w2,w3,w4,w5,w6,w7,w8,w9]; done) | (simp_all (config:={ maxSteps:=400000 }) [w2,w3,w4,w5,w6,w7,w8,w9]; omega)
 by_cases h6:f.line=6
 ·simp only [if_neg h1,if_neg h2,if_neg h3,if_neg h4,if_neg h5,if_pos h6]
  try simp only [h6]
  repeat' split
  all_goals first | rfl | omega | (simp_all (config:={ maxSteps:=400000 }) [w2,w3,w4,w5,w6,w7,w8,w9]; done) | (simp_all (config:={ maxSteps:=400000 }) [w2,w3,w4,w5,w6,w7,w8,w9]; omega)
 by_cases h7:f.line=7
 ·simp only [if_neg h1,if_neg h2,if_neg h3,if_neg h4,if_neg h5,if_neg h6,if_pos h7]
  try simp only [h7]
  repeat' split
  all_goals first | rfl | omega | (simp_all (config:={ maxSteps:=400000 }) [w2,w3,w4,w5,w6,w7,w8,w9]; done) | (simp_all (config:={ maxSteps:=400000 }) [w2,w3,w4,w5,w6,w7,w8,w9]; omega)
 ·simp only [if_neg h1,if_neg h2,if_neg h3,if_neg h4,if_neg h5,if_neg h6,if_neg h7]
  repeat' split
  all_goals first | rfl | omega | (simp_all (config:={ maxSteps:=400000 }) [w2,w3,w4,w5,w6,w7,w8,w9]; done) | (simp_all (config:={ maxSteps:=400000 }) [w2,w3,w4,w5,w6,w7,w8,w9]; omega)
theorem ayz (hE:Fit e):ac3 e f=some (aeO (akm e f)):=by
 unfold ac3 akm
 simp only [abI,abQ,abp,abr,abR,abo,abq,aaO,aaT,abt,abd,ab7,abi,abS,aa8,abj,acf,abu,abD,Option.bind_some,if_true,abV,aeO,go,fin,EnvV.ac,EnvV.rd,EnvV.hit,EnvV.em,szV,acN,acY,adn,acL,ae5,EnvV.put,EnvV.rc,aeq,EnvV.sub,adw,agN hE,agM hE]
 repeat' split
 all_goals first | rfl | omega | (simp_all (config:={ maxSteps:=2000000 }) [w2,w3,w4,w5,w6,w7,w8,w9]; done) | (simp_all (config:={ maxSteps:=2000000 }) [w2,w3,w4,w5,w6,w7,w8,w9]; omega)
theorem aA2 (hE:Fit e):aed e f=some (aeO (apj e f)):=by
 unfold aed apj
 simp only [abI,abQ,abp,abr,abR,abo,abq,aaO,aaT,abt,abd,ab7,abi,abS,aa8,abj,acf,abu,abD,Option.bind_some,if_true,abV,aeO,go,fin,EnvV.ac,EnvV.rd,EnvV.hit,EnvV.em,szV,acN,acY,adn,acL,ae5,EnvV.put,EnvV.rc,aeq,EnvV.sub,adw,agN hE,agM hE]
 repeat' split
 all_goals first | rfl | omega | (simp_all (config:={ maxSteps:=2000000 }) [w2,w3,w4,w5,w6,w7,w8,w9]; done) | (simp_all (config:={ maxSteps:=2000000 }) [w2,w3,w4,w5,w6,w7,w8,w9]; omega)
theorem azX:ac5 e f=some (aeO (akH e f)):=by
 unfold ac5 akH
 simp only [abI,abQ,abp,abr,abR,abo,abq,aaO,aaT,abt,abd,ab7,abi,abS,aa8,abj,acf,abu,abD,Option.bind_some,if_true,abV,aeO,go,fin,EnvV.ac,EnvV.rd,EnvV.hit,EnvV.em,szV,acN,acY,adn,acL,ae5,EnvV.put,EnvV.rc,aeq,EnvV.sub]
 repeat' split
 all_goals first | rfl | omega | (simp_all (config:={ maxSteps:=2000000 }) [w2,w3,w4,w5,w6,w7,w8,w9]; done) | (simp_all (config:={ maxSteps:=2000000 }) [w2,w3,w4,w5,w6,w7,w8,w9]; omega)
theorem aDD (hq:f.q.cap≤9223372036854775807):ayX e f=some (aeO (aAB e f)):=by
 have hq2:=@aA1 f.q.cap; unfold ayX aAB
 simp only [abI,abQ,abp,abr,abR,abo,abq,aaO,aaT,abt,abd,ab7,abi,abS,aa8,abj,acf,abu,abD,Option.bind_some,if_true,abV,aeO,go,fin,EnvV.ac,EnvV.rd,EnvV.hit,EnvV.em,szV,acN,acY,adn,acL,ae5,EnvV.put,EnvV.rc,aeq,EnvV.sub]
 by_cases h1:f.line=1
 ·simp only [if_pos h1]
  try simp only [h1]
  repeat' split
  all_goals first | rfl | omega | (simp_all (config:={ maxSteps:=400000 }) [w2,w3,w4,w5,w6,w7,w8,w9]; done) | (simp_all (config:={ maxSteps:=400000 }) [w2,w3,w4,w5,w6,w7,w8,w9]; omega)
 by_cases h2:f.line=2
 ·simp only [if_neg h1,if_pos h2]
  try simp only [h2]
  repeat' split
  all_goals first | rfl | omega | (simp_all (config:={ maxSteps:=400000 }) [w2,w3,w4,w5,w6,w7,w8,w9]; done) | (simp_all (config:={ maxSteps:=400000 }) [w2,w3,w4,w5,w6,w7,w8,w9]; omega)
 by_cases h3:f.line=3
 ·simp only [if_neg h1,if_neg h2,if_pos h3]
  try simp only [h3]
  repeat' split
  all_goals first | rfl | omega | (simp_all (config:={ maxSteps:=400000 }) [w2,w3,w4,w5,w6,w7,w8,w9]; done) | (simp_all (config:={ maxSteps:=400000 }) [w2,w3,w4,w5,w6,w7,w8,w9]; omega)
 by_cases h4:f.line=4
 ·simp only [if_neg h1,if_neg h2,if_neg h3,if_pos h4]
  try simp only [h4]
  repeat' split
  all_goals first | rfl | omega | (simp_all (config:={ maxSteps:=400000 }) [w2,w3,w4,w5,w6,w7,w8,w9]; done) | (simp_all (config:={ maxSteps:=400000 }) [w2,w3,w4,w5,w6,w7,w8,w9]; omega)
 by_cases h5:f.line=5
 ·simp only [if_neg h1,if_neg h2,if_neg h3,if_neg h4,if_pos h5]
  try simp only [h5]
  repeat' split
  all_goals first | rfl | omega | (simp_all (config:={ maxSteps:=400000 }) [w2,w3,w4,w5,w6,w7,w8,w9]; done) | (simp_all (config:={ maxSteps:=400000 }) [w2,w3,w4,w5,w6,w7,w8,w9]; omega)
 by_cases h8:f.line=8
 ·simp only [if_neg h1,if_neg h2,if_neg h3,if_neg h4,if_neg h5,if_pos h8]
  try simp only [h8]
  repeat' split
  all_goals first | rfl | omega | (simp_all (config:={ maxSteps:=400000 }) [w2,w3,w4,w5,w6,w7,w8,w9]; done) | (simp_all (config:={ maxSteps:=400000 }) [w2,w3,w4,w5,w6,w7,w8,w9]; omega)
 by_cases h6:f.line=6
 ·simp only [if_neg h1,if_neg h2,if_neg h3,if_neg h4,if_neg h5,if_neg h8,if_pos h6]
  try simp only [h6]
  repeat' split
  all_goals first | rfl | omega | (simp_all (config:={ maxSteps:=400000 }) [w2,w3,w4,w5,w6,w7,w8,w9]; done) | (simp_all (config:={ maxSteps:=400000 }) [w2,w3,w4,w5,w6,w7,w8,w9]; omega)
 by_cases h7:f.line=7
 ·simp only [if_neg h1,if_neg h2,if_neg h3,if_neg h4,if_neg h5,if_neg h8,if_neg h6,if_pos h7]
  try simp only [h7]
  repeat' split
  all_goals first | rfl | omega | (simp_all (config:={ maxSteps:=400000 }) [w2,w3,w4,w5,w6,w7,w8,w9]; done) | (simp_all (config:={ maxSteps:=400000 }) [w2,w3,w4,w5,w6,w7,w8,w9]; omega)
 ·simp only [if_neg h1,if_neg h2,if_neg h3,if_neg h4,if_neg h5,if_neg h8,if_neg h6,if_neg h7]
  repeat' split
  all_goals first | rfl | omega | (simp_all (config:={ maxSteps:=400000 }) [w2,w3,w4,w5,w6,w7,w8,w9]; done) | (simp_all (config:={ maxSteps:=400000 }) [w2,w3,w4,w5,w6,w7,w8,w9]; omega)
theorem az5 (hE:Fit e) (hr:(e.recs.length:Int)=e.c.tasks):aoa e f=some (aeO (akJ e f)):=by
 unfold aoa akJ
 have hin:=@ayr e.c f.b 0
 have hok:=@aEu e.m 3 (abf e.c f.b 0) 1 2
 simp only [abI,abQ,abp,abr,abR,abo,abq,aaO,aaT,abt,abd,ab7,abi,abS,aa8,abj,acf,abu,abD,Option.bind_some,if_true,abV,aeO,go,fin,EnvV.ac,EnvV.rd,EnvV.hit,EnvV.em,szV,acN,acY,adn,acL,ae5,EnvV.put,EnvV.rc,aeq,EnvV.sub,adw,agN hE,agM hE]
 by_cases h:(acc e.m 3 (abf e.c f.b 0) 1 2).1.2=true
 ·have h1:=hin (hok h).1
  have h2:0≤f.b∧f.b<(e.recs.length:Int):=by omega
  simp only [asv h2,h,h2,if_true,Bool.not_true,Bool.false_eq_true,if_false,and_self]
  repeat' split
  all_goals first | rfl | omega | (simp_all (config:={ maxSteps:=400000 }) [w2,w3,w4,w5,w6,w7,w8,w9]; done) | (simp_all (config:={ maxSteps:=400000 }) [w2,w3,w4,w5,w6,w7,w8,w9]; omega)
 ·have h':(acc e.m 3 (abf e.c f.b 0) 1 2).1.2=false:=by simpa using h
  simp only [h',Bool.not_false,if_true,Bool.false_eq_true,if_false]
theorem aq2 (hk:f.kind=12):adp e f=some (aeO (ahJ e f)):=by
 unfold adp ahJ
 simp only [hk,abI,abQ,abp,abr,abR,abo,abq,aaO,aaT,abt,abd,ab7,abi,abS,aa8,abj,acf,abu,abD,Option.bind_some,if_true,abV,aeO,go,fin,EnvV.ac,EnvV.rd,EnvV.hit,EnvV.em,szV,acN,acY,adn,acL,ae5,EnvV.put,EnvV.rc,aeq,EnvV.sub]
 by_cases hT:acE e (wi (acc e.m 6 0 1 0).1.1)
 ·have h1:=hT.1
  have h2:=hT.2.1
  have h3:=hT.2.2
  simp only [hT,h1,h2,h3,not_true,if_true,if_false,false_or]
  repeat' split
  all_goals first | rfl | omega | (simp_all (config:={ maxSteps:=400000 }) [w2,w3,w4,w5,w6,w7,w8,w9]; done) | (simp_all (config:={ maxSteps:=400000 }) [w2,w3,w4,w5,w6,w7,w8,w9]; omega)
 ·simp only [hT,not_false_iff,true_or,if_true]
  unfold acE at hT
  repeat' split
  all_goals first | rfl | omega | (simp_all (config:={ maxSteps:=400000 }) [w2,w3,w4,w5,w6,w7,w8,w9]; done) | (simp_all (config:={ maxSteps:=400000 }) [w2,w3,w4,w5,w6,w7,w8,w9]; omega)
theorem aq1 (hk:f.kind=14) (hE:Fit e) (hr:(e.recs.length:Int)=e.c.tasks):adp e f=some (aeO (akJ e f)):=by
 unfold adp
 simp only [hk,az5 hE hr,Option.bind_some]
 rfl
theorem anM (hk:f.kind=13):adp e f=some (aeO (afD e f)):=by
 unfold adp afD
 simp only [hk,show ¬ ((13:Int)=12) by decide,show ¬ ((13:Int)=14) by decide,if_false,abI,abQ,abp,abr,abR,abo,abq,aaO,aaT,abt,abd,ab7,abi,abS,aa8,abj,acf,abu,abD,Option.bind_some,if_true,abV,aeO,go,fin,EnvV.ac,EnvV.rd,EnvV.hit,EnvV.em,szV,acN,acY,adn,acL,ae5,EnvV.put,EnvV.rc,aeq,EnvV.sub]
 by_cases hT:acE e f.a
 ·have h1:=hT.1
  have h2:=hT.2.1
  have h3:=hT.2.2
  simp only [hT,h1,h2,h3,not_true,if_true,if_false,false_or]
  repeat' split
  all_goals first | rfl | omega | (simp_all (config:={ maxSteps:=400000 }) [w2,w3,w4,w5,w6,w7,w8,w9]; done) | (simp_all (config:={ maxSteps:=400000 }) [w2,w3,w4,w5,w6,w7,w8,w9]; omega)
 ·simp only [hT,not_false_iff,true_or,if_true]
  unfold acE at hT
  repeat' split
  all_goals first | rfl | omega | (simp_all (config:={ maxSteps:=400000 }) [w2,w3,w4,w5,w6,w7,w8,w9]; done) | (simp_all (config:={ maxSteps:=400000 }) [w2,w3,w4,w5,w6,w7,w8,w9]; omega)
theorem aq0 (hk:f.kind=15):adp e f=some (aeO (ahA e f)):=by
 unfold adp ahA
 simp only [hk,show ¬ ((15:Int)=12) by decide,show ¬ ((15:Int)=14) by decide,show ¬ ((15:Int)=13) by decide,if_false,abI,abQ,abp,abr,abR,abo,abq,aaO,aaT,abt,abd,ab7,abi,abS,aa8,abj,acf,abu,abD,Option.bind_some,if_true,abV,aeO,go,fin,EnvV.ac,EnvV.rd,EnvV.hit,EnvV.em,szV,acN,acY,adn,acL,ae5,EnvV.put,EnvV.rc,aeq,EnvV.sub]
 by_cases hT:acE e f.b
 ·have h1:=hT.1
  have h2:=hT.2.1
  have h3:=hT.2.2
  simp only [hT,h1,h2,h3,not_true,if_true,if_false,false_or]
  repeat' split
  all_goals first | rfl | omega | (simp_all (config:={ maxSteps:=400000 }) [w2,w3,w4,w5,w6,w7,w8,w9]; done) | (simp_all (config:={ maxSteps:=400000 }) [w2,w3,w4,w5,w6,w7,w8,w9]; omega)
 ·simp only [hT,not_false_iff,true_or,if_true]
  unfold acE at hT
  repeat' split
  all_goals first | rfl | omega | (simp_all (config:={ maxSteps:=400000 }) [w2,w3,w4,w5,w6,w7,w8,w9]; done) | (simp_all (config:={ maxSteps:=400000 }) [w2,w3,w4,w5,w6,w7,w8,w9]; omega)
theorem asl (hk:f.kind=16) (hE:Fit e):acS e f=some (aeO (akq e f)):=by
 unfold acS akq
 simp only [hk,abI,abQ,abp,abr,abR,abo,abq,aaO,aaT,abt,abd,ab7,abi,abS,aa8,abj,acf,abu,abD,Option.bind_some,if_true,abV,aeO,go,fin,EnvV.ac,EnvV.rd,EnvV.hit,EnvV.em,szV,acN,acY,adn,acL,ae5,EnvV.put,EnvV.rc,aeq,EnvV.sub,adw,agN hE,agM hE]
 by_cases hT:acE e f.b
 ·have h1:=hT.1
  have h2:=hT.2.1
  have h3:=hT.2.2
  simp only [hT,h1,h2,h3,not_true,if_true,if_false,false_or]
  repeat' split
  all_goals first | rfl | omega | (simp_all (config:={ maxSteps:=400000 }) [w2,w3,w4,w5,w6,w7,w8,w9]; done) | (simp_all (config:={ maxSteps:=400000 }) [w2,w3,w4,w5,w6,w7,w8,w9]; omega)
 ·simp only [hT,not_false_iff,true_or,if_true]
  unfold acE at hT
  repeat' split
  all_goals first | rfl | omega | (simp_all (config:={ maxSteps:=400000 }) [w2,w3,w4,w5,w6,w7,w8,w9]; done) | (simp_all (config:={ maxSteps:=400000 }) [w2,w3,w4,w5,w6,w7,w8,w9]; omega)
theorem auZ (hk:f.kind=17):acS e f=some (aeO (aph e f)):=by
 unfold acS aph
 simp only [hk,show ¬ ((17:Int)=16) by decide,if_false,abI,abQ,abp,abr,abR,abo,abq,aaO,aaT,abt,abd,ab7,abi,abS,aa8,abj,acf,abu,abD,Option.bind_some,if_true,abV,aeO,go,fin,EnvV.ac,EnvV.rd,EnvV.hit,EnvV.em,szV,acN,acY,adn,acL,ae5,EnvV.put,EnvV.rc,aeq,EnvV.sub]
 by_cases hT:acE e f.b
 ·have h1:=hT.1
  have h2:=hT.2.1
  have h3:=hT.2.2
  simp only [hT,h1,h2,h3,not_true,if_true,if_false,false_or]
  repeat' split
  all_goals first | rfl | omega | (simp_all (config:={ maxSteps:=400000 }) [w2,w3,w4,w5,w6,w7,w8,w9]; done) | (simp_all (config:={ maxSteps:=400000 }) [w2,w3,w4,w5,w6,w7,w8,w9]; omega)
 ·simp only [hT,not_false_iff,true_or,if_true]
  unfold acE at hT
  repeat' split
  all_goals first | rfl | omega | (simp_all (config:={ maxSteps:=400000 }) [w2,w3,w4,w5,w6,w7,w8,w9]; done) | (simp_all (config:={ maxSteps:=400000 }) [w2,w3,w4,w5,w6,w7,w8,w9]; omega)
theorem ays (hE:Fit e):ac2 e f=some (aeO (akk e f)):=by
 unfold ac2 akk
 simp only [abI,abQ,abp,abr,abR,abo,abq,aaO,aaT,abt,abd,ab7,abi,abS,aa8,abj,acf,abu,abD,Option.bind_some,if_true,abV,aeO,go,fin,EnvV.ac,EnvV.rd,EnvV.hit,EnvV.em,szV,acN,acY,adn,acL,ae5,EnvV.put,EnvV.rc,aeq,EnvV.sub,adw,agN hE,agM hE]
 by_cases hT:acE e f.b
 ·have h1:=hT.1
  have h2:=hT.2.1
  have h3:=hT.2.2
  simp only [hT,h1,h2,h3,not_true,if_true,if_false,false_or]
  repeat' split
  all_goals first | rfl | omega | (simp_all (config:={ maxSteps:=400000 }) [w2,w3,w4,w5,w6,w7,w8,w9]; done) | (simp_all (config:={ maxSteps:=400000 }) [w2,w3,w4,w5,w6,w7,w8,w9]; omega)
 ·simp only [hT,not_false_iff,true_or,if_true]
  unfold acE at hT
  repeat' split
  all_goals first | rfl | omega | (simp_all (config:={ maxSteps:=400000 }) [w2,w3,w4,w5,w6,w7,w8,w9]; done) | (simp_all (config:={ maxSteps:=400000 }) [w2,w3,w4,w5,w6,w7,w8,w9]; omega)
end
structure CfgOk (c:Cfg):Prop where
 w1:1≤c.workers
 w2:c.workers≤64
 l1:1≤c.levels
 l2:c.levels≤64
 c1:1≤c.classes
 c2:c.classes≤64
 t1:1≤c.tasks
 t2:c.tasks≤65535
 q1:0≤c.deque
 q2:c.deque≤65535
 sl:c.subs.length≤1000
 sub:∀ s∈c.subs,Rg s.level∧Rg s.deadline∧Rg s.prog
 ins:∀ p∈c.progs,∀ x∈p,Rg x.a∧Rg x.b∧(x.op≠0→x.op≠1→0≤x.a)
def amH (a:Int):Nat→Int
 | 0 =>0
 | n+1 =>if (n:Int)≠a then amH a n+1 else amH a n
def awT (w a t:Int):Nat→Int→Bool
 | 0,_ =>false
 | k+1,i =>decide (Int.tmod (wi (t+i)) w≠a) || awT w a t k (i+1)
def aB5 (w a t i:Int):Bool:=awT w a t (w-i).toNat i
def af8 (e:EnvV) (f:FrV):FrV:=if f.line=1 then { f with line:=2,j := -1,n := -1,t:=acs e.draw e.c.workers } else f
def ad5 (e:EnvV) (f:FrV):Int:=if Int.tmod (wi (f.t+f.i)) e.c.workers=f.a then wi (f.i+1) else f.i
def adJ (e:EnvV) (f:FrV):Int:=Int.tmod (wi (f.t+ad5 e f)) e.c.workers
def aht (e:EnvV) (f:FrV):Int:=aiF (e.ld (acb e.c (adJ e f)))
def acK (e:EnvV) (f:FrV):FrV:=if f.n<aht e f then { f with i:=wi (ad5 e f+1),j:=adJ e f,n:=aht e f } else { f with i:=wi (ad5 e f+1) }
def ajl (e:EnvV) (f:FrV):Lf :=
 if amH f.a e.c.workers.toNat=0 then fin 2 0 e f
 else if aB5 e.c.workers f.a f.t (wi (ad5 e f+1))=true then go (e.lm (acb e.c (adJ e f))) (acK e f)
 else if (acK e f).j<0 then fin 2 0 (e.lm (acb e.c (adJ e f))) (acK e f)
 else fin 1 (wi (wi ((acK e f).j*64)+(acK e f).n)) (e.lm (acb e.c (adJ e f))) (acK e f)
def aip (e:EnvV) (f:FrV):Lf:=ajl e (af8 e f)
def aeh (e:EnvV) (f:FrV):Lf :=
 if f.kind=0 then ap2 e f
 else if f.kind=1 then aAB e f
 else if f.kind=2 then akl e f
 else if f.kind=3 then fin 0 0 (e.ac 4 f.a (alO f.b) 0) f
 else if f.kind=4 then akI e f
 else if f.kind=6 then
  if e.ld (acb e.c f.a)=0 then fin 2 0 (e.lm (acb e.c f.a)) { f with u:=e.ld (acb e.c f.a) } else go (e.lm (acb e.c f.a)) { f with line:=2,u:=e.ld (acb e.c f.a),i:=aiF (e.ld (acb e.c f.a)) }
 else if f.kind=7 then
  if e.hit 3 1 0 (wu (wi (f.a+1)))=true then fin 1 0 (e.ac 3 1 0 (wu (wi (f.a+1)))) f else go (e.ac 3 1 0 (wu (wi (f.a+1)))) f
 else if f.kind=8 then
  if e.hit 3 1 0 (wu (wi (f.a+1)))=true then fin 1 0 (e.ac 3 1 0 (wu (wi (f.a+1)))) f else fin 5 0 (e.ac 3 1 0 (wu (wi (f.a+1)))) f
 else if f.kind=9 then fin 0 0 (e.sm 1 0) f
 else if f.kind=10 then ahz e f
 else if f.kind=11 then ahj e f
 else if f.kind=12 then ahJ e f
 else if f.kind=13 then afD e f
 else if f.kind=14 then akJ e f
 else if f.kind=15 then ahA e f
 else if f.kind=16 then akq e f
 else if f.kind=17 then aph e f
 else if f.kind=18 then akk e f
 else if f.kind=19 then akm e f
 else if f.kind=20 then apj e f
 else if f.kind=21 then aip e f
 else if f.kind=22 then akH e f
 else if f.kind=24 then ayI e f
 else if f.kind=26 then ahB e f
 else fin 4 0 e f
def aez (e:EnvV) (f:FrV):FrV :=
 if f.line≠1 then f
 else if ¬ acE e (abl f.l) then { f with line:=23 }
 else if (e.rc (abl f.l)).waiting ≠ -1 then { f with line:=2 }
 else if (e.rc (abl f.l)).pc<0∨((e.prog (abl f.l)).length:Int)≤(e.rc (abl f.l)).pc then { f with line:=17 }
 else if (e.ins (abl f.l)).op=0 then { f with line:=3 }
 else if (e.ins (abl f.l)).op=1 then { f with line:=5 }
 else if (e.ins (abl f.l)).a<((e.rc (abl f.l)).kids.length:Int)∧au9 (e.rc (abl f.l)).kids (e.ins (abl f.l)).a ≠ -1 then { f with line:=10,j:=au9 (e.rc (abl f.l)).kids (e.ins (abl f.l)).a }
 else { f with line:=4 }
def frK (k:Int):FrV:=⟨k,0,⟨0,0,0,0⟩,0,0,0,0,0,0,0,0,0,0,0,[]⟩
def aAu (f:FrV):Option FrV :=
 if f.line=5 then some (frK 12)
 else if f.line=6 then some { frK 13 with a:=f.n,b:=f.d }
 else if f.line=7 then some { frK 5 with a:=f.a,b:=f.d,d:=f.n }
 else if f.line=8 then some { frK 20 with a:=f.a,b:=f.d }
 else if f.line=9∨f.line=22 then some { frK 14 with a:=f.a,b:=f.n }
 else if f.line=14 then some { frK 17 with a:=f.a,b:=f.j,d:=f.t }
 else if f.line=20 then some { frK 15 with a:=f.a,b:=f.n }
 else if f.line=21 then some { frK 20 with a:=f.a,b:=f.t }
 else none
def amb (f:FrV):Option FrV :=
 if f.line=2 then some { frK 8 with a:=f.a }
 else if f.line=3 then some { frK 11 with a:=f.a }
 else if f.line=5 then some { frK 5 with a:=f.a,b:=f.t,d:=f.n }
 else if f.line=6 then some (frK 9)
 else if f.line=7 then some { frK 20 with a:=f.a,b:=f.j }
 else none
def afj (e:EnvV) (f:FrV):FrV:=if f.line=1∧e.c.age=0 then { f with line:=2 } else f
def ajN (e:EnvV) (f:FrV):FrV :=
 if f.line=1 then { frK 18 with a:=f.a,b:=f.j }
 else if f.line=2 then { frK 23 with a:=f.a }
 else if f.line=3 then { frK 22 with a:=f.a,d := -1 }
 else if f.line=4 then { frK 21 with a:=f.a }
 else if f.line=5 then { frK 2 with q:=ajj e.c f.i f.d }
 else if f.line=6 then { frK 14 with a:=f.a,b:=f.n }
 else if f.line=7 then { frK 24 with a:=f.a,b:=f.n,l:=[f.n] }
 else if f.line=8 then { frK 19 with a:=f.a }
 else { frK 4 with a:=acb e.c f.i,b:=f.d,q:=ajj e.c f.i f.d }
def aiK (e:EnvV) (f:FrV):Option FrV :=
 if (e.c.subs.length:Int)≤f.i then none
 else if f.line=1 then some { frK 7 with a:=e.c.workers }
 else if f.line=3 then some (frK 12)
 else if f.line=6 then some { frK 10 with a:=(e.sub f.i).deadline,b:=f.n }
 else if f.line=8 then some (frK 9)
 else if f.line=9 then some { frK 20 with a:=e.c.workers,b:=(e.sub f.i).level }
 else none
def ag1 (e:EnvV) (f:FrV):Option FrV×FrV :=
 if f.kind=5 then
  if f.line=1 then (some { frK 0 with q:=ajj e.c f.a f.b,a:=f.d },f) else (some { frK 3 with a:=acb e.c f.a,b:=f.b },f)
 else if f.kind=6 then
  if f.line=2 then (some { frK 1 with q:=ajj e.c f.a f.i },f)
  else if f.line=3 then (some { frK 4 with a:=acb e.c f.a,b:=f.i,q:=ajj e.c f.a f.i },f)
  else (none,f)
 else if f.kind=15 then
  if f.line=4 then (some { frK 5 with a:=f.a,b:=f.t,d:=f.b },f) else (none,f)
 else if f.kind=17 then
  if f.line=1 then
   if acE e f.b∧0≤f.d∧f.d<e.c.levels then (some { frK 16 with a:=f.a,b:=f.b,d:=f.d },f) else (none,f)
  else if f.line=3 then (some { frK 5 with a:=f.a,b:=f.d,d:=f.b },f)
  else (none,f)
 else if f.kind=18 then
  if f.line=6 then (some { frK 5 with a:=f.a,b:=f.t,d:=f.b },f) else (none,f)
 else if f.kind=22 then (amb f,f)
 else if f.kind=23 then
  if f.line=1 then (some { frK 6 with a:=f.a },f) else (some { frK 14 with a:=f.a,b:=f.n },f)
 else if f.kind=24 then (aAu (aez e f),aez e f)
 else if f.kind=25 then (some (ajN e (afj e f)),afj e f)
 else if f.kind=26 then (aiK e f,f)
 else (none,f)
def atR (e:EnvV) (f:FrV) (code:Int):Lf :=
 if f.line=1 then (if code=1 then go e { f with line:=2 } else go e { f with line:=4 })
 else if code=3 then go (e.em 19 f.a f.b 0 f.d) { f with line:=4 } else go e { f with line:=4 }
def anB (e:EnvV) (f:FrV) (code value:Int):Lf :=
 if f.line=2 then (if code=5 then fin 5 0 e f else go e { f with line:=3 })
 else if f.line=3 then (if code=2 then go e { f with line:=6,n:=value } else go e { f with line:=4,n:=value })
 else if f.line=5 then
  if code=3 then go e { f with line:=6,d:=f.n }
  else if wi (f.i+1)<e.c.batch then go e { f with line:=3,i:=wi (f.i+1),j:=f.t } else go e { f with line:=6,i:=wi (f.i+1),j:=f.t }
 else if f.line=6 then
  if 0<f.i then go e { f with line:=7 } else if 0≤f.d then fin 1 f.d e f else fin 2 0 e f
 else if 0≤f.d then fin 1 f.d e f else fin 0 f.i e f
def amJ (e:EnvV) (f:FrV) (code value:Int):Lf :=
 if f.line=1 then (if code=2 then fin 2 0 e f else go e { f with line:=2,n:=value })
 else if code=1 then fin 1 value e f else go e { f with line:=1 }
def ahL (e:EnvV) (f:FrV) (code value:Int):Lf :=
 if f.line=1 then go e { f with line:=2,j:=Int.tmod (wi (f.j+1)) (if 1<e.c.tasks then e.c.tasks else 1) }
 else if f.line=2 then (if code=1 then go e { f with line:=7,n:=value } else go e { f with line:=3,n:=value })
 else if f.line=3 then
  if code=1 then go e { f with line:=6,n:=value }
  else if code=0 then go e { f with line:=2,n:=value }
  else if e.c.workers=1 then go e { f with line:=8,n:=value }
  else go e { f with line:=4,n:=value }
 else if f.line=4 then (if code=1 then go e { f with line:=5,d:=Int.tmod value 64,i:=wi (Int.tdiv value 64) } else go e { f with line:=8,d:=Int.tmod value 64,i:=wi (Int.tdiv value 64) })
 else if f.line=5 then
  if code=1 then go (e.em 14 f.a value f.i f.d) { f with line:=6,n:=value }
  else if code=2 then go e { f with line:=9,n:=value }
  else go e { f with line:=1,n:=value }
 else if f.line=6 then (if code=1 then go e { f with line:=7 } else go e { f with line:=1 })
 else go e { f with line:=1 }
def aiG (e:EnvV) (f:FrV):Lf :=
 if (e.c.subs.length:Int)≤wi (f.i+1) then fin 0 0 e { f with line:=1,b:=0,i:=wi (f.i+1) } else go e { f with line:=1,b:=0,i:=wi (f.i+1) }
def akB (prog parent:Int):RecV:=⟨prog,parent,0,0,-1,[],false⟩
def aj9 (e:EnvV) (f:FrV) (code value:Int):Lf :=
 if f.line=1 then go e { f with line:=2 }
 else if f.line=3 then
  if code=3 then go (e.em 2 e.c.workers 0 f.i 2) { f with line:=8 } else go (e.put value (akB (e.sub f.i).prog (-1))) { f with line:=4,n:=value }
 else if f.line=6 then
  if code=0 then go (e.em 1 e.c.workers f.n f.i (e.sub f.i).level) { f with line:=7,b:=1 } else go e { f with line:=8 }
 else if f.line=8 then (if f.b=1 then go e { f with line:=9 } else aiG e f)
 else aiG e f
def aDZ (r:RecV) (k:Int):RecV:={ r with pc:=wi (r.pc+1),kids:=r.kids++[k] }
def aCT (e:EnvV) (f:FrV) (code value:Int):Lf :=
 if f.line=5 then
  if code=3 then go ((e.put (abl f.l) (aDZ (e.rc (abl f.l)) (-1))).em 4 f.a (abl f.l) 0 0) { f with line:=1 }
  else go ((e.put (abl f.l) (aDZ (e.rc (abl f.l)) value)).put value (akB (e.ins (abl f.l)).a (abl f.l))) { f with line:=6,n:=value,d:=(e.ins (abl f.l)).b }
 else if f.line=6 then go (e.em 3 f.a f.n (abl f.l) f.d) { f with line:=7 }
 else if f.line=7 then (if code=3 then go e { f with line:=9 } else go e { f with line:=8 })
 else if f.line=8 then go e { f with line:=1 }
 else if f.line=9 then (if code=1 then go e { f with line:=1,l:=f.l++[f.n] } else go e { f with line:=1 })
 else if f.line=14 then ad6 (e.em 7 f.a (abl f.l) 0 f.t) f
 else if f.line=20 then (if code=3 then go e { f with line:=22,t:=value } else go e { f with line:=21,t:=value })
 else if f.line=21 then ad6 e f
 else if f.line=22 then (if code=1 then go e { f with line:=1,l:=f.l.dropLast++[f.n] } else ad6 e f)
 else go e f
def ag8 (e:EnvV) (f:FrV) (code value:Int):Lf :=
 if f.kind=5 then (if f.line=2∨code=3 then fin code 0 e f else go e { f with line:=2 })
 else if f.kind=6 then
  if f.line=3 then go e { f with line:=1 } else if code=1 then fin 1 value e f else go e { f with line:=3 }
 else if f.kind=15 then fin code f.t e f
 else if f.kind=17 then atR e f code
 else if f.kind=18 then (if code=3 then fin 1 0 (e.em 19 f.a f.b 0 f.t) f else fin 1 0 e f)
 else if f.kind=22 then anB e f code value
 else if f.kind=23 then amJ e f code value
 else if f.kind=24 then aCT e f code value
 else if f.kind=25 then ahL e f code value
 else if f.kind=26 then aj9 e f code value
 else go e f
def adv (e:EnvV):Nat→FrV→List FrV→FrV×List FrV
 | 0,top,ps =>(top,ps)
 | k+1,top,ps =>match ag1 e top with
  | (none,f) =>(f,ps)
  | (some ch,f) =>adv e k { ch with line:=1 } (f::ps)
def aiL:ResV→EnvV→FrV→List FrV→(Option ResV×EnvV×List FrV)
 | r,e,top,[] =>if r.done=true then (some r,e,[]) else (none,e,[top])
 | r,e,top,p::ps =>if r.done=true then aiL (ag8 e p r.code r.value).1 (ag8 e p r.code r.value).2.1 (ag8 e p r.code r.value).2.2 ps else (none,e,top::p::ps)
def avn (e:EnvV) (top:FrV) (ps:List FrV):Option ResV×EnvV×List FrV :=
 aiL (aeh e (adv e 8 top ps).1).1 (aeh e (adv e 8 top ps).1).2.1 (aeh e (adv e 8 top ps).1).2.2 (adv e 8 top ps).2
def aib (e:EnvV) (m:MaV):Bool×MaV×EnvV :=
 if m.over=true then (true,m,e)
 else match m.f.reverse with
  | [] =>(false,m,e)
  | top::ps =>match avn e top ps with
   | (some r,e',_) =>(true,⟨[],true,r.code,r.value⟩,e')
   | (none,e',s) =>(false,{ m with f:=s.reverse },e')
theorem asr {rs:List RecV} {t:Int} {r:RecV} (h:0≤t∧t<(rs.length:Int)):abH (rs.set t.toNat r) t=r:=by
 have:t.toNat<rs.length:=by omega
 simp [abH,atL,this]
 rfl
section
variable {e:EnvV} {f:FrV}
structure LOk (f:FrV):Prop where
 ne:f.l≠[]
 le:f.l.length≤999999999
theorem LOk.n (h:LOk f):wi (((f.l.length:Nat):Int)-1)=((f.l.length-1:Nat):Int):=by
 have h1:=List.length_pos_iff.2 h.ne
 have h2:=h.le
 rw [acH (aam (by omega))]; omega
theorem LOk.a (h:LOk f):au9 f.l ((f.l.length-1:Nat):Int)=abl f.l:=by
 have h1:=List.length_pos_iff.2 h.ne
 simp only [au9,atL,abl,Int.toNat_natCast,List.getLast?_eq_getElem?]
 rfl
theorem LOk.g (h:LOk f):(0≤((f.l.length-1:Nat):Int)∧((f.l.length-1:Nat):Int)<((f.l.length:Nat):Int))=True:=by
 have h1:=List.length_pos_iff.2 h.ne
 exact eq_true ⟨by omega,by omega⟩
theorem LOk.g2 (h:LOk f):(0≤((f.l.length-1:Nat):Int)∧((f.l.length-1:Nat):Int)≤((f.l.length:Nat):Int))=True:=by
 have h1:=List.length_pos_iff.2 h.ne
 exact eq_true ⟨by omega,by omega⟩
theorem LOk.t (h:LOk f):f.l.take (((f.l.length-1:Nat):Int)).toNat=f.l.dropLast:=by
 rw [List.dropLast_eq_take]; simp
theorem azz (h:LOk f):aeV f=some (((ad6 e f).1,()),((ad6 e f).2.2,()))∧(ad6 e f).2.1=e:=by
 unfold aeV ad6
 have h1:=List.length_pos_iff.2 h.ne
 have h2:=h.le
 simp only [h.n,h.g2,h.t,if_true,List.length_dropLast]
 by_cases hl:f.l.length=1
 ·rw [if_pos (by omega),if_pos hl]; exact ⟨rfl,rfl⟩
 ·rw [if_neg (by omega),if_neg hl]; exact ⟨rfl,rfl⟩
theorem leave_eq' (h:LOk f):aeV f=some (((ad6 e f).1,()),((ad6 e f).2.2,())):=(azz h).1
theorem awU (e:EnvV) (f:FrV):(ad6 e f).2.1=e:=by unfold ad6; split<;>rfl
theorem ahx (h:LOk f) (e:EnvV):((aeV f).bind fun r =>some ((r.1.1,()),(e,r.2.1,())))=some (aeO (ad6 e f)):=by
 rw [leave_eq' (e:=e) h]
 simp only [Option.bind_some,aeO]
 rw [awU]
theorem axl (h:LOk f) (hE:Fit e) (t:Int):akX e f t=some (aeO (agJ e f t)):=by
 unfold akX agJ
 have hn:∀ x,LOk { f with n:=x }:=fun x =>⟨h.ne,h.le⟩
 simp only [abI,abQ,abp,abr,abR,abo,abq,aaO,aaT,abt,abd,ab7,abi,abS,aa8,abj,acf,abu,abD,Option.bind_some,if_true,abV,ahx h,ahx (hn _),adw,agN hE,agM hE,EnvV.hit,EnvV.ac,EnvV.rd]
 by_cases h17:f.line=17
 ·rw [if_pos h17,if_pos h17]; rfl
 rw [if_neg h17,if_neg h17]
 by_cases h18:f.line=18
 ·rw [if_pos h18,if_pos h18]
  split<;>(rename_i hh; simp only [hh,if_true,if_false,Bool.false_eq_true]; try rfl)
 rw [if_neg h18,if_neg h18]
 by_cases hT:acE e (wi (wu ((acc e.m 1 (abf e.c t 2) 0 0).1.1-1)))
 ·have t1:=hT.1
  have t2:=hT.2.1
  have t3:=hT.2.2
  simp only [hT,t1,t2,t3,not_true,if_true,if_false]; rfl
 ·rw [if_neg hT]
  unfold acE at hT
  repeat' split
  all_goals first | rfl | omega
theorem axN (hi:0≤f.i) (hE:Fit e):acy e f=some (aeO (ahB e f)):=by
 unfold acy ahB
 by_cases h:(e.c.subs.length:Int)≤f.i
 ·rw [if_pos h,if_pos h]; rfl
 ·rw [if_neg h,if_neg h]
  have hg:(0≤f.i∧f.i<(e.c.subs.length:Int)):=⟨hi,by omega⟩
  simp only [hg,and_self,if_true,abI,abQ,abp,abr,abR,abo,abq,aaO,aaT,abt,abd,ab7,abi,abS,aa8,abj,acf,abu,abD,Option.bind_some,if_true,abV,aeO,go,fin,EnvV.ac,EnvV.rd,EnvV.hit,EnvV.em,szV,acN,acY,adn,acL,ae5,EnvV.put,EnvV.rc,aeq,EnvV.sub,adw,agN hE,agM hE]
  repeat' split
  all_goals first | rfl | omega | (simp_all (config:={ maxSteps:=400000 }) [w2,w3,w4,w5,w6,w7,w8,w9]; done) | (simp_all (config:={ maxSteps:=400000 }) [w2,w3,w4,w5,w6,w7,w8,w9]; omega)
def aEQ (e:EnvV) (f:FrV):Prop:=0≤abl f.l∧abl f.l<(e.recs.length:Int)
def ape (e:EnvV) (t:Int):Prop:=(0≤(e.rc t).prog∧(e.rc t).prog<(e.c.progs.length:Int))∧0≤(e.rc t).pc∧(e.rc t).pc<((e.prog t).length:Int)
theorem ape.prog {t:Int} (h:ape e t):e.prog t=atL [] e.c.progs (e.rc t).prog:=by
 unfold EnvV.prog
 rw [if_neg (by have:=h.1; omega)]
theorem aDq (h:LOk f) (hT:f.line≠23→aEQ e f) (hE:Fit e) (hp:f.line=3→ape e (abl f.l)):ags e f=some (aeO (ayI e f)):=by
 unfold ags tuR tsR trR tpF ayI
 simp only [h.n,h.a,h.g,if_true]
 by_cases h23:f.line=23
 ·rw [if_pos h23,if_pos h23]; rfl
 rw [if_neg h23,if_neg h23]
 have ht:0≤abl f.l∧abl f.l<(e.recs.length:Int):=hT h23
 simp only [asv ht,ht,and_self,if_true,abI,abQ,abp,abr,abR,abo,abq,aaO,aaT,abt,abd,ab7,abi,abS,aa8,abj,acf,abu,abD,Option.bind_some,if_true,abV,adw,agN hE,agM hE]
 by_cases h3:f.line=3
 ·obtain ⟨p1,p2⟩:=hp h3
  rw [(hp h3).prog] at p2
  have hi:e.ins (abl f.l)=afW (atL [] e.c.progs (e.rc (abl f.l)).prog) (e.rc (abl f.l)).pc:=by unfold EnvV.ins; rw [(hp h3).prog]
  simp only [EnvV.rc] at p1 p2 hi
  have q1:¬ (abH e.recs (abl f.l)).prog<0:=by omega
  have q2:¬ ((e.c.progs.length:Nat):Int)≤(abH e.recs (abl f.l)).prog:=by omega
  simp only [h3,show ¬ ((3:Int)=2) by decide,if_false,if_true,asr ht,List.set_set,q1,q2,p1,p2,and_self,hi,aeO,go,fin,EnvV.ac,EnvV.rd,EnvV.hit,EnvV.em,szV,acN,acY,adn,acL,ae5,EnvV.put,EnvV.rc,aeq,EnvV.sub,aCD]
  repeat' split
  all_goals first | rfl | (simp_all; done) | omega
 by_cases h2:f.line=2
 ·simp only [h2,if_true]; rfl
 by_cases h4:f.line=4
 ·simp only [h4,show ¬ ((4:Int)=2) by decide,show ¬ ((4:Int)=3) by decide,if_true,if_false]; rfl
 by_cases h10:f.line=10
 ·simp only [h10,show ¬ ((10:Int)=2) by decide,show ¬ ((10:Int)=3) by decide,show ¬ ((10:Int)=4) by decide,if_true,if_false,asr ht,List.set_set]; rfl
 simp only [if_neg h2,if_neg h3,if_neg h4,if_neg h10]
 by_cases h11:f.line=11
 ·simp only [h11,if_true]; rfl
 by_cases h12:f.line=12
 ·simp only [h12,show ¬ ((12:Int)=11) by decide,if_true,if_false]
  simp only [aeO,go,fin,EnvV.ac,EnvV.rd,EnvV.hit,EnvV.em,szV,acN,acY,adn,acL,ae5,EnvV.put,EnvV.rc,aeq,EnvV.sub]
  split<;>(rename_i hh; simp only [hh,if_true,if_false,Bool.false_eq_true])
 by_cases h13:f.line=13
 ·simp only [h13,show ¬ ((13:Int)=11) by decide,show ¬ ((13:Int)=12) by decide,if_true,if_false]; rfl
 by_cases h15:f.line=15
 ·simp only [h15,show ¬ ((15:Int)=11) by decide,show ¬ ((15:Int)=12) by decide,show ¬ ((15:Int)=13) by decide,if_true,if_false]; rfl
 by_cases h16:f.line=16
 ·simp only [h16,show ¬ ((16:Int)=11) by decide,show ¬ ((16:Int)=12) by decide,show ¬ ((16:Int)=13) by decide,show ¬ ((16:Int)=15) by decide,if_true,if_false]; rfl
 simp only [if_neg h11,if_neg h12,if_neg h13,if_neg h15,if_neg h16,axl h hE,Option.bind_some]; try rfl
theorem aD3 (hc:CfgOk e.c) {t:Int} (h1:ape e t) (h2:(e.ins t).op≠0) (h3:(e.ins t).op≠1):0≤(e.ins t).a:=by
 obtain ⟨p1,p2⟩:=h1
 have hp:=ape.prog ⟨p1,p2⟩
 have m1:e.prog t∈e.c.progs:=by rw [hp]; exact List.mem_of_getElem? (aej p1)
 have m2:e.ins t∈e.prog t:=List.mem_of_getElem? (aej (d:=dfR 3) p2)
 exact (hc.ins _ m1 _ m2).2.2 h2 h3
theorem axS (h:LOk f) (hr:(e.recs.length:Int)=e.c.tasks) (hc:CfgOk e.c):akY e f=some ((()),(e,aez e f,())):=by
 unfold akY trR tpF aez
 by_cases h1:f.line≠1
 ·rw [if_pos h1,if_pos h1]
 have h1:f.line=1:=by simpa using h1
 simp only [h1,ne_eq,not_true,if_false,h.n,h.a,h.g,if_true]
 by_cases hT:¬ acE e (abl f.l)
 ·rw [if_pos hT]
  unfold acE at hT
  by_cases a1:0≤abl f.l
  ·by_cases a2:abl f.l<e.c.tasks
   ·rw [if_pos a1,if_pos a2,if_pos (fun a3 =>hT ⟨a1,a2,a3⟩)]
   ·rw [if_pos a1,if_neg a2]
  ·rw [if_neg a1]
 have hT:acE e (abl f.l):=by simpa using hT
 have t1:=hT.1
 have t2:=hT.2.1
 have t3:=hT.2.2
 have ht7:0≤abl f.l∧abl f.l<(e.recs.length:Int):=⟨t1,t3⟩
 have w7:ws7 e.recs (abl f.l)=e.recs:=asv ht7
 have w8:e.recs.set (abl f.l).toNat (abH e.recs (abl f.l))=e.recs:=w7
 simp only [w7,w8,hT,t1,t2,t3,not_true,if_true,if_false,and_self]
 by_cases hp:(abH e.recs (abl f.l)).prog<0
 ·have e0:e.prog (abl f.l)=[]:=by unfold EnvV.prog EnvV.rc; rw [if_pos (.inl hp)]
  simp only [hp,if_true,e0,EnvV.rc,List.length_nil]
  repeat' split
  all_goals first | rfl | omega | (simp_all; omega)
 by_cases hp2:((e.c.progs.length:Nat):Int)≤(abH e.recs (abl f.l)).prog
 ·have e0:e.prog (abl f.l)=[]:=by unfold EnvV.prog EnvV.rc; rw [if_pos (.inr hp2)]
  simp only [hp,hp2,if_true,if_false,e0,EnvV.rc,List.length_nil]
  repeat' split
  all_goals first | rfl | omega | (simp_all; omega)
 have e0:e.prog (abl f.l)=atL [] e.c.progs (abH e.recs (abl f.l)).prog:=by unfold EnvV.prog EnvV.rc; rw [if_neg (by omega)]
 have hp3:0≤(abH e.recs (abl f.l)).prog∧(abH e.recs (abl f.l)).prog<(e.c.progs.length:Int):=by omega
 have ha:=aD3 (t:=abl f.l) hc
 unfold ape at ha
 simp only [EnvV.ins,e0,EnvV.rc] at ha
 simp only [hp,hp2,hp3,if_true,if_false,and_self,EnvV.ins,e0,EnvV.rc]
 by_cases hw:(abH e.recs (abl f.l)).waiting ≠ -1
 ·rw [if_pos hw,if_pos hw]
 have hw:(abH e.recs (abl f.l)).waiting=-1:=by simpa using hw
 simp only [hw,not_true,if_false]
 by_cases hpc:(abH e.recs (abl f.l)).pc<0∨(((atL [] e.c.progs (abH e.recs (abl f.l)).prog).length:Nat):Int)≤(abH e.recs (abl f.l)).pc
 ·rw [if_pos hpc]
  by_cases a1:(abH e.recs (abl f.l)).pc<0
  ·rw [if_pos a1]
  ·rw [if_neg a1,if_pos (by omega)]
 have hpc2:0≤(abH e.recs (abl f.l)).pc∧(abH e.recs (abl f.l)).pc<(((atL [] e.c.progs (abH e.recs (abl f.l)).prog).length:Nat):Int):=by omega
 have hpc3:¬ (abH e.recs (abl f.l)).pc<0:=by omega
 have hpc4:¬ (((atL [] e.c.progs (abH e.recs (abl f.l)).prog).length:Nat):Int)≤(abH e.recs (abl f.l)).pc:=by omega
 rw [if_neg hpc]
 simp only [hpc2,hpc3,hpc4,if_true,if_false,and_self]
 by_cases o0:(afW (atL [] e.c.progs (abH e.recs (abl f.l)).prog) (abH e.recs (abl f.l)).pc).op=0
 ·rw [if_pos o0,if_pos o0]
 by_cases o1:(afW (atL [] e.c.progs (abH e.recs (abl f.l)).prog) (abH e.recs (abl f.l)).pc).op=1
 ·rw [if_neg o0,if_neg o0,if_pos o1,if_pos o1]
 have ha1:=ha ⟨hp3,hpc2⟩ o0 o1
 rw [if_neg o0,if_neg o0,if_neg o1,if_neg o1]
 repeat' split
 all_goals first | rfl | omega | (simp_all; done) | (simp_all; omega)
theorem ar5 (h:LOk f) (hr:(e.recs.length:Int)=e.c.tasks) (hc:CfgOk e.c):ahS e f=some ((((aAu (aez e f)).getD (frK 0),(aAu (aez e f)).isSome,())),(e,aez e f,())):=by
 unfold ahS
 rw [axS h hr hc]
 simp only [Option.bind_some]
 generalize aez e f=g
 unfold aAu
 repeat' split
 all_goals first | rfl | omega | (simp_all; done) | (simp_all; omega)
theorem aoQ:afA f=some ((((amb f).getD (frK 0),(amb f).isSome,())),(f,())):=by
 unfold afA amb
 repeat' split
 all_goals rfl
theorem amE:ae6 e f=some (((ajN e (afj e f),true,())),(e,afj e f,())):=by
 unfold ae6 afj ajN
 simp only [abI,abQ,abp,abr,abR,abo,abq,aaO,aaT,abt,abd,ab7,abi,abS,aa8,abj,acf,abu,abD,Option.bind_some,if_true,abV,ahR]
 by_cases h1:f.line=1
 ·by_cases ha:e.c.age=0
  ·simp only [h1,ha,and_self,if_true]; rfl
  ·simp only [h1,ha,and_false,if_false,if_true]; rfl
 ·simp only [h1,false_and,if_false]
  repeat' split
  all_goals first | rfl | omega
theorem amF (hi:0≤f.i):ae7 e f=some ((((aiK e f).getD (frK 0),(aiK e f).isSome,())),(e,f,())):=by
 unfold ae7 aiK
 by_cases h:(e.c.subs.length:Int)≤f.i
 ·rw [if_pos h,if_pos h]; rfl
 ·have hg:(0≤f.i∧f.i<(e.c.subs.length:Int)):=⟨hi,by omega⟩
  rw [if_neg h,if_neg h]
  simp only [hg,and_self,if_true,EnvV.sub]
  repeat' split
  all_goals rfl
end
theorem atB {w a:Int} {F:(Int×Int×Unit→Option (Int×Int×Unit))→Int×Int×Unit→Option (Int×Int×Unit)}
  (hF:F=fun self x =>if x.2.1<w then (if x.2.1≠a then self (wi (x.1+1),wi (x.2.1+1),()) else self (x.1,wi (x.2.1+1),())) else some (x.1,x.2.1,())) (hw:w≤64) :
  ∀ (k i:Nat),(i:Int)≤w→w-i<k→0≤amH a i∧amH a i≤i→lpF F k (amH a i,(i:Int),())=some (amH a w.toNat,w,())
 | 0,i,h1,h2,_ =>by omega
 | k+1,i,h1,h2,h3 =>by
  rw [ach,congrFun (congrFun hF _) _]
  by_cases h:(i:Int)<w
  ·have e1:wi ((i:Int)+1)=((i+1:Nat):Int):=by rw [acH (aam (by omega))]; omega
   have e2:wi (amH a i+1)=amH a i+1:=acH (aam (by omega))
   simp only [h,if_true,e1,e2]
   have ih:=atB hF hw k (i+1) (by omega) (by omega)
   by_cases hv:(i:Int)≠a
   ·rw [if_pos hv]
    have e3:amH a (i+1)=amH a i+1:=by simp only [amH]; rw [if_pos hv]
    rw [← e3]; exact ih (by rw [e3]; omega)
   ·rw [if_neg hv]
    have e3:amH a (i+1)=amH a i:=by simp only [amH]; rw [if_neg hv]
    rw [← e3]; exact ih (by rw [e3]; omega)
  ·simp only [h,if_false]
   rw [show w.toNat=i by omega,show w=(i:Int) by omega]
theorem alR {w a t:Int} {F:(Bool×Int×Unit→Option (Bool×Int×Unit))→Bool×Int×Unit→Option (Bool×Int×Unit)}
  (hF:F=fun self x =>if x.2.1<w then (if x.1=true then self (true,wi (x.2.1+1),()) else self (decide (¬ Int.tmod (wi (t+x.2.1)) w=a),wi (x.2.1+1),())) else some (x.1,x.2.1,())) (h0:1≤w) (hw:w≤64) :
  ∀ (n k:Nat) (b:Bool) (i:Int),0≤i→i≤100→(w-i).toNat=n→n<k→∃ j,lpF F k (b,i,())=some (b || awT w a t n i,j,())
 | 0,k+1,b,i,_,_,hn,_ =>by
  refine ⟨i,?_⟩
  rw [ach,congrFun (congrFun hF _) _]
  simp only [show ¬ i<w by omega,if_false,awT,Bool.or_false]
 | n+1,k+1,b,i,hi,hi2,hn,hk =>by
  have e1:wi (i+1)=i+1:=acH (aam (by omega))
  cases b with
  | true =>
   obtain ⟨j,hj⟩:=alR hF h0 hw n k true (i+1) (by omega) (by omega) (by omega) (by omega)
   refine ⟨j,?_⟩
   rw [ach,congrFun (congrFun hF _) _]
   simp only [show i<w by omega,if_true,e1,hj,Bool.true_or]
  | false =>
   obtain ⟨j,hj⟩:=alR hF h0 hw n k (decide (Int.tmod (wi (t+i)) w≠a)) (i+1) (by omega) (by omega) (by omega) (by omega)
   refine ⟨j,?_⟩
   rw [ach,congrFun (congrFun hF _) _]
   simp only [show i<w by omega,if_true,e1,Bool.false_eq_true,if_false]
   simp only [ne_eq] at hj
   rw [hj]
   simp only [awT,Bool.false_or,ne_eq]
section
variable {e:EnvV} {f:FrV}
theorem azx {w a t i:Int} {β:Type} {F:(Bool×Int×Unit→Option (Bool×Int×Unit))→Bool×Int×Unit→Option (Bool×Int×Unit)}
  (hF:F=fun self x =>if x.2.1<w then (if x.1=true then self (true,wi (x.2.1+1),()) else self (decide (¬ Int.tmod (wi (t+x.2.1)) w=a),wi (x.2.1+1),())) else some (x.1,x.2.1,())) (h0:1≤w) (hw:w≤64) (hi:0≤i) (hi2:i≤100) (A B:Option β) :
  ((lpF F 18446744073709551616 (false,i,())).bind fun z =>if z.1=true then A else B)=if aB5 w a t i=true then A else B:=by
 obtain ⟨j,hj⟩:=alR hF h0 hw (w-i).toNat 18446744073709551616 false i hi hi2 rfl (by omega)
 rw [hj]
 simp only [Option.bind_some,Bool.false_or]
 rfl
theorem aCE {w a:Int} {β:Type} {F:(Int×Int×Unit→Option (Int×Int×Unit))→Int×Int×Unit→Option (Int×Int×Unit)}
  (hF:F=fun self x =>if x.2.1<w then (if x.2.1≠a then self (wi (x.1+1),wi (x.2.1+1),()) else self (x.1,wi (x.2.1+1),())) else some (x.1,x.2.1,())) (h0:0≤w) (hw:w≤64) (A B:Option β) :
  ((lpF F 18446744073709551616 (0,0,())).bind fun z =>if z.1=0 then A else B)=if amH a w.toNat=0 then A else B:=by
 have:=atB hF hw 18446744073709551616 0 (by omega) (by omega) ⟨by simp [amH],by simp [amH]⟩
 simp only [amH] at this
 rw [show ((0:Nat):Int)=0 from rfl] at this
 rw [this]
 rfl
theorem aza (hc:CfgOk e.c) (hi:0≤f.i∧f.i≤e.c.workers):ac4 e f=some (aeO (aip e f)):=by
 have w1:=hc.w1
 have w2:=hc.w2
 have hn:e.c.workers≠0:=by omega
 have e1:wi (f.i+1)=f.i+1:=acH (aam (by omega))
 have e2:wi (f.i+1+1)=f.i+1+1:=acH (aam (by omega))
 have lu:∀ (t i:Int) (A B:Option ((ResV×Unit)×(EnvV×FrV×Unit))),0≤i→i≤100→_:=fun t i A B h1 h2 =>azx (w:=e.c.workers) (a:=f.a) (t:=t) rfl w1 w2 h1 h2 A B
 have cu:∀ (A B:Option ((ResV×Unit)×(EnvV×FrV×Unit))),_:=fun A B =>aCE (w:=e.c.workers) (a:=f.a) rfl (by omega) w2 A B
 have i1:0≤f.i+1∧f.i+1≤100:=by omega
 have i2:0≤f.i+1+1∧f.i+1+1≤100:=by omega
 unfold ac4 aip
 simp only [abI,abQ,abp,abr,abR,abo,abq,aaO,aaT,abt,abd,ab7,abi,abS,aa8,abj,acf,abu,abD,Option.bind_some,if_true,abV,hn,ne_eq,not_false_iff,e1,e2]
 by_cases h1:f.line=1
 ·rw [if_pos h1]
  have hb:af8 e f={ f with line:=2,j := -1,n := -1,t:=acs e.draw e.c.workers }:=by unfold af8; rw [if_pos h1]
  rw [hb]
  refine (cu _ _).trans ?_
  unfold ajl
  by_cases hk:amH f.a e.c.workers.toNat=0
  ·simp only [hk,if_true]; rfl
  simp only [hk,if_false]
  by_cases hv:Int.tmod (wi (acs e.draw e.c.workers+f.i)) e.c.workers=f.a
  ·have hI:ad5 e { f with line:=2,j := -1,n := -1,t:=acs e.draw e.c.workers }=f.i+1:=by unfold ad5; rw [if_pos hv,e1]
   simp only [hv,if_true]
   by_cases hh:-1<aiF (acc e.m 1 (acb e.c (Int.tmod (wi (acs e.draw e.c.workers+(f.i+1))) e.c.workers)) 0 0).1.1
   ·rw [if_pos hh]
    refine (lu _ _ _ _ i2.1 i2.2).trans ?_
    have hF:acK e { f with line:=2,j := -1,n := -1,t:=acs e.draw e.c.workers }={ ({ f with line:=2,j := -1,n := -1,t:=acs e.draw e.c.workers }:FrV) with i:=wi (f.i+1+1),j:=Int.tmod (wi (acs e.draw e.c.workers+(f.i+1))) e.c.workers,n:=aiF (e.ld (acb e.c (Int.tmod (wi (acs e.draw e.c.workers+(f.i+1))) e.c.workers))) }:=by unfold acK aht adJ; rw [hI]; exact if_pos hh
    rw [hF]
    unfold adJ
    rw [hI]
    simp only [e2]
    repeat' split
    all_goals rfl
   ·rw [if_neg hh]
    refine (lu _ _ _ _ i2.1 i2.2).trans ?_
    have hF:acK e { f with line:=2,j := -1,n := -1,t:=acs e.draw e.c.workers }={ ({ f with line:=2,j := -1,n := -1,t:=acs e.draw e.c.workers }:FrV) with i:=wi (f.i+1+1) }:=by unfold acK aht adJ; rw [hI]; exact if_neg hh
    rw [hF]
    unfold adJ
    rw [hI]
    simp only [e2]
    repeat' split
    all_goals first | rfl | (exfalso; omega)
  ·have hI:ad5 e { f with line:=2,j := -1,n := -1,t:=acs e.draw e.c.workers }=f.i:=by unfold ad5; rw [if_neg hv]
   simp only [hv,if_false]
   by_cases hh:-1<aiF (acc e.m 1 (acb e.c (Int.tmod (wi (acs e.draw e.c.workers+f.i)) e.c.workers)) 0 0).1.1
   ·rw [if_pos hh]
    refine (lu _ _ _ _ i1.1 i1.2).trans ?_
    have hF:acK e { f with line:=2,j := -1,n := -1,t:=acs e.draw e.c.workers }={ ({ f with line:=2,j := -1,n := -1,t:=acs e.draw e.c.workers }:FrV) with i:=wi (f.i+1),j:=Int.tmod (wi (acs e.draw e.c.workers+f.i)) e.c.workers,n:=aiF (e.ld (acb e.c (Int.tmod (wi (acs e.draw e.c.workers+f.i)) e.c.workers))) }:=by unfold acK aht adJ; rw [hI]; exact if_pos hh
    rw [hF]
    unfold adJ
    rw [hI]
    simp only [e1]
    repeat' split
    all_goals rfl
   ·rw [if_neg hh]
    refine (lu _ _ _ _ i1.1 i1.2).trans ?_
    have hF:acK e { f with line:=2,j := -1,n := -1,t:=acs e.draw e.c.workers }={ ({ f with line:=2,j := -1,n := -1,t:=acs e.draw e.c.workers }:FrV) with i:=wi (f.i+1) }:=by unfold acK aht adJ; rw [hI]; exact if_neg hh
    rw [hF]
    unfold adJ
    rw [hI]
    simp only [e1]
    repeat' split
    all_goals first | rfl | (exfalso; omega)
 ·rw [if_neg h1]
  have hb:af8 e f=f:=by unfold af8; rw [if_neg h1]
  rw [hb]
  refine (cu _ _).trans ?_
  unfold ajl
  by_cases hk:amH f.a e.c.workers.toNat=0
  ·simp only [hk,if_true]; rfl
  simp only [hk,if_false]
  by_cases hv:Int.tmod (wi (f.t+f.i)) e.c.workers=f.a
  ·have hI:ad5 e f=f.i+1:=by unfold ad5; rw [if_pos hv,e1]
   simp only [hv,if_true]
   by_cases hh:f.n<aiF (acc e.m 1 (acb e.c (Int.tmod (wi (f.t+(f.i+1))) e.c.workers)) 0 0).1.1
   ·rw [if_pos hh]
    refine (lu _ _ _ _ i2.1 i2.2).trans ?_
    have hF:acK e f={ f with i:=wi (f.i+1+1),j:=Int.tmod (wi (f.t+(f.i+1))) e.c.workers,n:=aiF (e.ld (acb e.c (Int.tmod (wi (f.t+(f.i+1))) e.c.workers))) }:=by unfold acK aht adJ; rw [hI]; exact if_pos hh
    rw [hF]
    unfold adJ
    rw [hI]
    simp only [e2]
    repeat' split
    all_goals rfl
   ·rw [if_neg hh]
    refine (lu _ _ _ _ i2.1 i2.2).trans ?_
    have hF:acK e f={ f with i:=wi (f.i+1+1) }:=by unfold acK aht adJ; rw [hI]; exact if_neg hh
    rw [hF]
    unfold adJ
    rw [hI]
    simp only [e2]
    repeat' split
    all_goals rfl
  ·have hI:ad5 e f=f.i:=by unfold ad5; rw [if_neg hv]
   simp only [hv,if_false]
   by_cases hh:f.n<aiF (acc e.m 1 (acb e.c (Int.tmod (wi (f.t+f.i)) e.c.workers)) 0 0).1.1
   ·rw [if_pos hh]
    refine (lu _ _ _ _ i1.1 i1.2).trans ?_
    have hF:acK e f={ f with i:=wi (f.i+1),j:=Int.tmod (wi (f.t+f.i)) e.c.workers,n:=aiF (e.ld (acb e.c (Int.tmod (wi (f.t+f.i)) e.c.workers))) }:=by unfold acK aht adJ; rw [hI]; exact if_pos hh
    rw [hF]
    unfold adJ
    rw [hI]
    simp only [e1]
    repeat' split
    all_goals rfl
   ·rw [if_neg hh]
    refine (lu _ _ _ _ i1.1 i1.2).trans ?_
    have hF:acK e f={ f with i:=wi (f.i+1) }:=by unfold acK aht adJ; rw [hI]; exact if_neg hh
    rw [hF]
    unfold adJ
    rw [hI]
    simp only [e1]
    repeat' split
    all_goals rfl
end
structure LeafC (e:EnvV) (f:FrV):Prop where
 cf:CfgOk e.c
 fit:Fit e
 rc:(e.recs.length:Int)=e.c.tasks
 cap:f.q.cap≤9223372036854775807
 run:f.kind=24→LOk f∧(f.line≠23→aEQ e f)∧(f.line=3→ape e (abl f.l))
 cl:f.kind=26→0≤f.i
 pr:f.kind=21→0≤f.i∧f.i≤e.c.workers
section
variable {e:EnvV} {f:FrV}
theorem aB6 (p:LeafC e f):alx e f=some (aeO (aeh e f)):=by
 unfold alx aeh
 by_cases hk:f.kind=0
 ·simp only [aBK p.cap,Option.bind_some,Int.reduceEq,hk,if_true,if_false]
  try rfl
 have n0:=hk; clear hk
 by_cases hk:f.kind=1
 ·simp only [aDD p.cap,Option.bind_some,Int.reduceEq,hk,if_true,if_false]
  try rfl
 have n1:=hk; clear hk
 by_cases hk:f.kind=2
 ·simp only [ayw p.cap,Option.bind_some,Int.reduceEq,hk,if_true,if_false]
  try rfl
 have n2:=hk; clear hk
 by_cases hk:f.kind=3
 ·simp only [abi,abI,aaO,abj,Option.bind_some,Int.reduceEq,hk,if_true,if_false]
  try rfl
 have n3:=hk; clear hk
 by_cases hk:f.kind=4
 ·simp only [asg,Option.bind_some,Int.reduceEq,hk,if_true,if_false]
  try rfl
 have n4:=hk; clear hk
 by_cases hk:f.kind=6
 ·simp only [hk,if_true,if_false,abi,abI,aaO,abj,Option.bind_some,Int.reduceEq,EnvV.rd,EnvV.hit]
  split<;>first | rfl | (rename_i hh; simp only [hh,if_true,if_false,Bool.false_eq_true]; try rfl)
 have n6:=hk; clear hk
 by_cases hk:f.kind=7
 ·simp only [hk,if_true,if_false,abi,abI,aaO,abj,Option.bind_some,Int.reduceEq,EnvV.rd,EnvV.hit]
  split<;>first | rfl | (rename_i hh; simp only [hh,if_true,if_false,Bool.false_eq_true]; try rfl)
 have n7:=hk; clear hk
 by_cases hk:f.kind=8
 ·simp only [hk,if_true,if_false,abi,abI,aaO,abj,Option.bind_some,Int.reduceEq,EnvV.rd,EnvV.hit]
  split<;>first | rfl | (rename_i hh; simp only [hh,if_true,if_false,Bool.false_eq_true]; try rfl)
 have n8:=hk; clear hk
 by_cases hk:f.kind=9
 ·simp only [abi,abI,aaO,abj,Option.bind_some,Int.reduceEq,hk,if_true,if_false]
  try rfl
 have n9:=hk; clear hk
 by_cases hk:f.kind=10
 ·simp only [aw3,Option.bind_some,Int.reduceEq,hk,if_true,if_false]
  try rfl
 have n10:=hk; clear hk
 by_cases hk:f.kind=11
 ·simp only [avT p.fit,Option.bind_some,Int.reduceEq,hk,if_true,if_false]
  try rfl
 have n11:=hk; clear hk
 by_cases hk:f.kind=12
 ·simp only [aq2 hk,Option.bind_some,Int.reduceEq,hk,if_true,if_false]
  try rfl
 have n12:=hk; clear hk
 by_cases hk:f.kind=13
 ·simp only [anM hk,Option.bind_some,Int.reduceEq,hk,if_true,if_false]
  try rfl
 have n13:=hk; clear hk
 by_cases hk:f.kind=14
 ·simp only [aq1 hk p.fit p.rc,Option.bind_some,Int.reduceEq,hk,if_true,if_false]
  try rfl
 have n14:=hk; clear hk
 by_cases hk:f.kind=15
 ·simp only [aq0 hk,Option.bind_some,Int.reduceEq,hk,if_true,if_false]
  try rfl
 have n15:=hk; clear hk
 by_cases hk:f.kind=16
 ·simp only [asl hk p.fit,Option.bind_some,Int.reduceEq,hk,if_true,if_false]
  try rfl
 have n16:=hk; clear hk
 by_cases hk:f.kind=17
 ·simp only [auZ hk,Option.bind_some,Int.reduceEq,hk,if_true,if_false]
  try rfl
 have n17:=hk; clear hk
 by_cases hk:f.kind=18
 ·simp only [ays p.fit,Option.bind_some,Int.reduceEq,hk,if_true,if_false]
  try rfl
 have n18:=hk; clear hk
 by_cases hk:f.kind=19
 ·simp only [ayz p.fit,Option.bind_some,Int.reduceEq,hk,if_true,if_false]
  try rfl
 have n19:=hk; clear hk
 by_cases hk:f.kind=20
 ·simp only [aA2 p.fit,Option.bind_some,Int.reduceEq,hk,if_true,if_false]
  try rfl
 have n20:=hk; clear hk
 by_cases hk:f.kind=21
 ·simp only [aza p.cf (p.pr hk),Option.bind_some,Int.reduceEq,hk,if_true,if_false]
  try rfl
 have n21:=hk; clear hk
 by_cases hk:f.kind=22
 ·simp only [azX,Option.bind_some,Int.reduceEq,hk,if_true,if_false]
  try rfl
 have n22:=hk; clear hk
 by_cases hk:f.kind=24
 ·simp only [aDq (p.run hk).1 (p.run hk).2.1 p.fit (p.run hk).2.2,Option.bind_some,Int.reduceEq,hk,if_true,if_false]
  try rfl
 have n24:=hk; clear hk
 by_cases hk:f.kind=26
 ·simp only [axN (p.cl hk) p.fit,Option.bind_some,Int.reduceEq,hk,if_true,if_false]
  try rfl
 have n26:=hk; clear hk
 simp only [n0,n1,n2,n3,n4,n6,n7,n8,n9,n10,n11,n12,n13,n14,n15,n16,n17,n18,n19,n20,n21,n22,n24,n26,if_false]
 rfl
structure BackC (e:EnvV) (f:FrV) (code value:Int):Prop where
 cf:CfgOk e.c
 fit:Fit e
 run:f.kind=24→(LOk f∧aEQ e f)∧(f.line=5→ape e (abl f.l)∧(e.rc (abl f.l)).kids.length<999999999∧(code≠3→0≤value∧value<(e.recs.length:Int)))
 cl:f.kind=26→(0≤f.i∧f.i<(e.c.subs.length:Int))∧(f.line=3→code≠3→0≤value∧value<(e.recs.length:Int))
theorem asp (hE:Fit e) (code:Int):ahU e f code=some (aeO (atR e f code)):=by
 unfold ahU atR
 simp only [adw hE,Option.bind_some]
 repeat' split
 all_goals rfl
theorem aqI (code value:Int):agu e f code value=some (aeO (anB e f code value)):=by
 unfold agu anB
 repeat' split
 all_goals first | rfl | omega
theorem asq (code value:Int):((ahV f code value).bind fun r =>some ((r.1.1,()),(e,r.2.1,())))=some (aeO (amJ e f code value)):=by
 unfold ahV amJ
 repeat' split
 all_goals rfl
theorem ao6 (hc:CfgOk e.c) (hE:Fit e) (code value:Int):((afB e f code value).bind fun r =>some (((⟨false,0,0⟩:ResV),()),(r.2.1,r.2.2.1,())))=some (aeO (ahL e f code value)):=by
 unfold afB ahL
 have ht:=hc.t1
 have hm:(if 1<e.c.tasks then e.c.tasks else 1)≠0:=by split<;>omega
 simp only [adw hE,Option.bind_some,hm,ne_eq,not_false_iff,if_true]
 repeat' split
 all_goals rfl
theorem aqu:afl e f=some (aeO (aiG e f)):=by
 unfold afl aiG
 split<;>rfl
theorem ao7 (hE:Fit e) {code value:Int} (hi:0≤f.i∧f.i<(e.c.subs.length:Int)) (hv:f.line=3→code≠3→0≤value∧value<(e.recs.length:Int)):afC e f code value=some (aeO (aj9 e f code value)):=by
 unfold afC aj9
 simp only [hi,and_self,if_true,adw hE,aqu,agt,Option.bind_some]
 by_cases h1:f.line=1
 ·simp only [h1,if_true]; rfl
 by_cases h3:f.line=3
 ·simp only [h3,if_true,if_false,Int.reduceEq]
  by_cases hcode:code=3
  ·simp only [hcode,if_true]; rfl
  ·have:=hv h3 hcode
   simp only [hcode,this,and_self,if_true,if_false]; rfl
 simp only [if_neg h1,if_neg h3]
 repeat' split
 all_goals rfl
theorem LOk.dl (h:LOk f):f.l.length=f.l.dropLast.length+1:=by
 have:=List.length_pos_iff.2 h.ne
 rw [List.length_dropLast]; omega
theorem aCz {rs:List RecV} (h:Fit e) (k w t o l:Int):aaX { e with recs:=rs } k w t o l=some ((()),(({ e with recs:=rs }:EnvV).em k w t o l,())):=adw (e:={ e with recs:=rs }) h k w t o l
theorem au1 (hE:Fit e) {code value:Int} (h:LOk f) (ht:aEQ e f) (h5:f.line=5→ape e (abl f.l)∧(e.rc (abl f.l)).kids.length<999999999∧(code≠3→0≤value∧value<(e.recs.length:Int))):ai8 e f code value=some (aeO (aCT e f code value)):=by
 unfold ai8 tuR tsR trR tpF aCT
 have ht2:0≤abl f.l∧abl f.l<(e.recs.length:Int):=ht
 have hle:=h.le
 have hdl:=h.dl
 have g1:∀ n:Nat,n<999999999→(((n:Nat):Int)<1000000000000)=True:=fun n hn =>eq_true (by omega)
 simp only [h.n,h.a,h.g,h.g2,h.t,asv ht2,if_true,ht2,and_self]
 by_cases l5:f.line=5
 ·obtain ⟨⟨p1,p2⟩,p3,p4⟩:=h5 l5
  rw [ape.prog ⟨p1,p2⟩] at p2
  have hi:e.ins (abl f.l)=afW (atL [] e.c.progs (e.rc (abl f.l)).prog) (e.rc (abl f.l)).pc:=by unfold EnvV.ins; rw [(h5 l5).1.prog]
  simp only [EnvV.rc] at p1 p2 p3 hi
  have q1:¬ (abH e.recs (abl f.l)).prog<0:=by omega
  have q2:¬ ((e.c.progs.length:Nat):Int)≤(abH e.recs (abl f.l)).prog:=by omega
  have q3:((([]:List Int).length+(abH e.recs (abl f.l)).kids.length:Nat):Int)<1000000000000:=by simp; omega
  have q4:∀ k:Int,(((abH e.recs (abl f.l)).kids.length+([k]:List Int).length:Nat):Int)<1000000000000:=fun k =>by simp; omega
  simp only [if_pos l5,afL,q1,q2,p1,p2,if_false,if_true,and_self,asr ht2,List.set_set,q3,q4,agt,Option.bind_some,aCz hE,List.length_set,hi,List.nil_append]
  by_cases hcode:code=3
  ·simp only [hcode,if_true]; rfl
  ·have:=p4 hcode
   simp only [hcode,if_false,this,and_self,if_true]; rfl
 simp only [if_neg l5,adw hE,Option.bind_some]
 by_cases l6:f.line=6
 ·simp only [l6,if_true]; rfl
 by_cases l7:f.line=7
 ·simp only [l7,if_true,if_false,Int.reduceEq]; split<;>rfl
 by_cases l8:f.line=8
 ·simp only [l8,if_true,if_false,Int.reduceEq]; rfl
 by_cases l9:f.line=9
 ·have q1:((([]:List Int).length+f.l.length:Nat):Int)<1000000000000:=by simp; omega
  have q2:((f.l.length+([f.n]:List Int).length:Nat):Int)<1000000000000:=by simp; omega
  simp only [l9,if_true,if_false,Int.reduceEq,q1,q2,List.nil_append,afL]; split<;>rfl
 by_cases l14:f.line=14
 ·simp only [l14,if_true,if_false,Int.reduceEq,ahx h]
 by_cases l20:f.line=20
 ·simp only [l20,if_true,if_false,Int.reduceEq]; split<;>rfl
 by_cases l21:f.line=21
 ·simp only [l21,if_true,if_false,Int.reduceEq,ahx h]
 by_cases l22:f.line=22
 ·have q1:((([]:List Int).length+f.l.dropLast.length:Nat):Int)<1000000000000:=by simp; omega
  have q2:((f.l.dropLast.length+([f.n]:List Int).length:Nat):Int)<1000000000000:=by simp; omega
  simp only [l22,if_true,if_false,Int.reduceEq,q1,q2,List.nil_append,ahx h,afL]
  by_cases hcode:code=1
  ·simp only [hcode,ne_eq,not_true,if_false,if_true]; try rfl
  ·simp only [hcode,ne_eq,not_false_iff,if_false,if_true]
 simp only [l6,l7,l8,l9,l14,l20,l21,l22,if_false]; rfl
theorem aCL {code value:Int} (p:BackC e f code value):am8 e f code value=some (aeO (ag8 e f code value)):=by
 unfold am8 ag8
 by_cases k5:f.kind=5
 ·simp only [k5,if_true]
  repeat' split
  all_goals first | rfl | omega
 by_cases k6:f.kind=6
 ·simp only [k6,if_true,if_false,Int.reduceEq]
  repeat' split
  all_goals first | rfl | omega
 by_cases k15:f.kind=15
 ·simp only [k15,if_true,if_false,Int.reduceEq]; rfl
 by_cases k17:f.kind=17
 ·simp only [k17,if_true,if_false,Int.reduceEq,asp p.fit,Option.bind_some]; try rfl
 by_cases k18:f.kind=18
 ·simp only [k18,if_true,if_false,Int.reduceEq,adw p.fit,Option.bind_some]
  split<;>rfl
 by_cases k22:f.kind=22
 ·simp only [k22,if_true,if_false,Int.reduceEq,aqI,Option.bind_some]; try rfl
 by_cases k23:f.kind=23
 ·simp only [k23,if_true,if_false,Int.reduceEq,asq]
 by_cases k24:f.kind=24
 ·have hr:=p.run k24
  simp only [k24,if_true,if_false,Int.reduceEq,au1 p.fit hr.1.1 hr.1.2 hr.2,Option.bind_some]; try rfl
 by_cases k25:f.kind=25
 ·simp only [k25,if_true,if_false,Int.reduceEq,ao6 p.cf p.fit]
 by_cases k26:f.kind=26
 ·have hr:=p.cl k26
  simp only [k26,if_true,if_false,Int.reduceEq,ao7 p.fit hr.1 hr.2,Option.bind_some]; try rfl
 simp only [k5,k6,k15,k17,k18,k22,k23,k24,k25,k26,if_false]; rfl
structure EntC (e:EnvV) (f:FrV):Prop where
 cf:CfgOk e.c
 rc:(e.recs.length:Int)=e.c.tasks
 run:f.kind=24→LOk f
 cl:f.kind=26→0≤f.i
def aFS (e:EnvV) (o:Option FrV×FrV):(FrV×Bool×Unit)×(EnvV×FrV×Unit):=((o.1.getD (frK 0),o.1.isSome,()),(e,o.2,()))
theorem azT (p:EntC e f):aix e f=some (aFS e (ag1 e f)):=by
 unfold aix ag1
 by_cases k5:f.kind=5
 ·simp only [k5,if_true,abd,aaO,Option.bind_some]
  split<;>rfl
 by_cases k6:f.kind=6
 ·simp only [k6,if_true,if_false,Int.reduceEq,abd,aaO,Option.bind_some]
  repeat' split
  all_goals rfl
 by_cases k15:f.kind=15
 ·simp only [k15,if_true,if_false,Int.reduceEq]
  split<;>rfl
 by_cases k17:f.kind=17
 ·simp only [k17,if_true,if_false,Int.reduceEq]
  by_cases l1:f.line=1
  ·simp only [l1,if_true,if_false,Int.reduceEq,acE]
   by_cases a1:0≤f.b
   ·by_cases a2:f.b<e.c.tasks
    ·by_cases a3:f.b<(e.recs.length:Int)
     ·by_cases a4:0≤f.d
      ·by_cases a5:f.d<e.c.levels
       ·simp only [a1,a2,a3,a4,a5,if_true,and_self]; rfl
       ·simp only [a1,a2,a3,a4,a5,if_true,if_false,and_self,and_false]; rfl
      ·simp only [a1,a2,a3,a4,if_true,if_false,and_self,and_false,false_and]; rfl
     ·simp only [a1,a2,a3,if_true,if_false,and_self,and_false,false_and]; rfl
    ·simp only [a1,a2,if_true,if_false,and_self,and_false,false_and]; rfl
   ·simp only [a1,if_false,false_and]; rfl
  ·simp only [l1,if_false]
   split<;>rfl
 by_cases k18:f.kind=18
 ·simp only [k18,if_true,if_false,Int.reduceEq]
  split<;>rfl
 by_cases k22:f.kind=22
 ·simp only [k22,if_true,if_false,Int.reduceEq,aoQ,Option.bind_some]; rfl
 by_cases k23:f.kind=23
 ·simp only [k23,if_true,if_false,Int.reduceEq]
  split<;>rfl
 by_cases k24:f.kind=24
 ·simp only [k24,if_true,if_false,Int.reduceEq,ar5 (p.run k24) p.rc p.cf,Option.bind_some]; rfl
 by_cases k25:f.kind=25
 ·simp only [k25,if_true,if_false,Int.reduceEq,amE,Option.bind_some]; rfl
 by_cases k26:f.kind=26
 ·simp only [k26,if_true,if_false,Int.reduceEq,amF (p.cl k26),Option.bind_some]; rfl
 simp only [k5,k6,k15,k17,k18,k22,k23,k24,k25,k26,if_false]; rfl
end
structure FrR (K:Nat) (f:FrV):Prop where
 a:Rg f.a
 b:Rg f.b
 d:Rg f.d
 i:Rg f.i
 j:Rg f.j
 n:Rg f.n
 t:Rg f.t
 l:∀ x∈f.l,Rg x
 ln:f.l.length≤K
 cap:f.q.cap≤9223372036854775807
structure EvR (e:Ev):Prop where
 kind:Rg e.kind
 worker:Rg e.worker
 task:Rg e.task
 other:Rg e.other
 level:Rg e.level
def aC3 (K:Nat) (evs:List Ev):Prop:=evs.length≤K∧∀ e∈evs,EvR e
def ava (K:Nat) (c:Cfg) (recs:List RecV):Prop:=(recs.length:Int)=c.tasks∧∀ r∈recs,r.kids.length≤K∧∀ x∈r.kids,Rg x
theorem FrR.all {K:Nat} {f:FrV} (h:FrR K f):Rg f.a∧Rg f.b∧Rg f.d∧Rg f.i∧Rg f.j∧Rg f.n∧Rg f.t∧(∀ x∈f.l,Rg x)∧f.l.length≤K+1∧f.q.cap≤9223372036854775807∧f.l.length≤K:=⟨h.a,h.b,h.d,h.i,h.j,h.n,h.t,h.l,Nat.le_succ_of_le h.ln,h.cap,h.ln⟩
theorem FrR.le {K L:Nat} {f:FrV} (h:FrR K f) (hl:K≤L):FrR L f:=⟨h.a,h.b,h.d,h.i,h.j,h.n,h.t,h.l,Nat.le_trans h.ln hl,h.cap⟩
theorem aC3.le {K L:Nat} {e:List Ev} (h:aC3 K e) (hl:K≤L):aC3 L e:=⟨Nat.le_trans h.1 hl,h.2⟩
theorem ava.le {K L:Nat} {c:Cfg} {e:List RecV} (h:ava K c e) (hl:K≤L):ava L c e:=⟨h.1,fun r hr =>⟨Nat.le_trans (h.2 r hr).1 hl,(h.2 r hr).2⟩⟩
theorem FrR.up {K:Nat} {f:FrV} (h:FrR K f):FrR (K+1) f:=h.le (Nat.le_succ K)
theorem rg0:Rg 0:=aam (by decide)
theorem aaH (x:Int):Rg (aB3 x):=by have:=aB2 x; exact aam (by omega)
theorem aav (x:Int):Rg (aiF x):=by have:=azH x; exact aam (by omega)
structure EP (K:Nat) (e e':EnvV):Prop where
 c:e'.c=e.c
 now:e'.now=e.now
 draw:e'.draw=e.draw
 len:e'.m.cells.length=e.m.cells.length
 rcs:ava K e.c e.recs→ava (K+1) e.c e'.recs
 evs:e'.evs=e.evs
structure EQ (K:Nat) (e e':EnvV):Prop where
 c:e'.c=e.c
 now:e'.now=e.now
 draw:e'.draw=e.draw
 len:e'.m.cells.length=e.m.cells.length
 rcs:ava K e.c e.recs→ava (K+1) e.c e'.recs
 evs:aC3 K e.evs→aC3 (K+1) e'.evs
section
variable {K:Nat} {e e':EnvV} {f:FrV}
theorem EP.refl:EP K e e:=⟨rfl,rfl,rfl,rfl,fun h =>h.le (Nat.le_succ K),rfl⟩
theorem EP.ac (h:EP K e e') {k a v w:Int}:EP K e (e'.ac k a v w):=⟨h.c,h.now,h.draw,(aCM _ _ _ _ _).trans h.len,h.rcs,h.evs⟩
theorem awJ {α:Type} {xs:List α} {n:Nat} {y x:α} (h:x∈xs.set n y):x=y∨x∈xs:=by
 rcases List.mem_or_eq_of_mem_set h with h | h
 ·exact .inr h
 ·exact .inl h
theorem EP.put (h:EP K e e') {t:Int} {r:RecV} (hr:ava K e.c e.recs→r.kids.length≤K+1∧∀ x∈r.kids,Rg x):EP K e (e'.put t r):=⟨h.c,h.now,h.draw,h.len,fun hh =>by
 have h1:=h.rcs hh
 refine ⟨by simp [EnvV.put]; exact h1.1,fun x hx =>?_⟩
 rcases awJ hx with rfl | hx
 ·exact hr hh
 ·exact h1.2 x hx,h.evs⟩
theorem EQ.of (h:EP K e e'):EQ K e e':=⟨h.c,h.now,h.draw,h.len,h.rcs,fun hh =>by rw [h.evs]; exact hh.le (Nat.le_succ K)⟩
theorem EQ.em (h:EP K e e') {k w t o l:Int} (hk:Rg k) (hw:Rg w) (ht:Rg t) (ho:Rg o) (hl:Rg l):EQ K e (e'.em k w t o l):=⟨h.c,h.now,h.draw,h.len,h.rcs,fun hh =>by
 refine ⟨by simp [EnvV.em,h.evs]; exact hh.1,fun x hx =>?_⟩
 have hx2:x∈e.evs++[⟨k,w,t,o,l⟩]:=by rw [← h.evs]; exact hx
 rcases List.mem_append.1 hx2 with hx | hx
 ·exact hh.2 x hx
 ·rw [List.mem_singleton] at hx; subst hx; exact ⟨hk,hw,ht,ho,hl⟩⟩
theorem avV (hr:ava K e.c e.recs) (t:Int):(e.rc t).kids.length≤K∧∀ x∈(e.rc t).kids,Rg x:=by
 by_cases h:t.toNat<e.recs.length
 ·refine hr.2 _ ?_
  have:e.recs[t.toNat]?=some (e.rc t):=by simp [EnvV.rc,abH,atL,h]; rfl
  exact List.mem_of_getElem? this
 ·have:e.rc t=(dfR 7:TR 7):=by simp [EnvV.rc,abH,atL,h]; rfl
  rw [this]
  exact ⟨Nat.zero_le _,fun x hx =>by cases hx⟩
structure LfP (K:Nat) (e:EnvV) (f:FrV) (o:Lf):Prop where
 fr:FrR (K+1) o.2.2
 kind:o.2.2.kind=f.kind
 val:Rg o.1.value
 env:EQ K e o.2.1
set_option maxHeartbeats 4000000 in
theorem acn (h:FrR K f) (hn:Rg e.now):LfP K e f (ap2 e f)∧LfP K e f (aAB e f)∧LfP K e f (akl e f)∧LfP K e f (akI e f)∧LfP K e f (ahz e f)∧LfP K e f (ahj e f)∧LfP K e f (afD e f)∧LfP K e f (ahA e f)∧LfP K e f (akq e f)∧LfP K e f (aph e f)∧LfP K e f (akk e f)∧LfP K e f (akm e f)∧LfP K e f (apj e f)∧LfP K e f (akH e f):=by
 obtain ⟨ha_,hb_,hd_,hi_,hj_,hn_,ht_,hl_,hu_,hcap_,hln_⟩:=h.all
 have hu:Rg (afP f.u).2.2:=aaP _
 refine ⟨?_,?_,?_,?_,?_,?_,?_,?_,?_,?_,?_,?_,?_,?_⟩
 all_goals (first | unfold ap2 | unfold aAB | unfold akl | unfold akI | unfold ahz | unfold ahj | unfold afD | unfold ahA | unfold akq | unfold aph | unfold akk | unfold akm | unfold apj | unfold akH)
 all_goals (repeat' split)
 all_goals (refine ⟨?_,rfl,?_,?_⟩<;>(try dsimp only [go,fin])<;>first | (with_reducible first | assumption | exact aaP _ | exact aaH _ | exact aav _ | exact aam (by decide)) | exact EQ.of EP.refl | exact EQ.of EP.refl.ac | ((first | refine EQ.em EP.refl ?_ ?_ ?_ ?_ ?_ | refine EQ.em EP.refl.ac ?_ ?_ ?_ ?_ ?_ | constructor)<;>(try dsimp only)<;>with_reducible first | assumption | exact aaP _ | exact aaH _ | exact aav _ | exact aam (by decide)))
theorem ay8 (h:FrR K f) (hn:Rg e.now):LfP K e f (ap2 e f):=(acn h hn).1
theorem aBO (h:FrR K f) (hn:Rg e.now):LfP K e f (aAB e f):=(acn h hn).2.1
theorem avq (h:FrR K f) (hn:Rg e.now):LfP K e f (akl e f):=(acn h hn).2.2.1
theorem axP (h:FrR K f) (hn:Rg e.now):LfP K e f (akI e f):=(acn h hn).2.2.2.1
theorem auG (h:FrR K f) (hn:Rg e.now):LfP K e f (ahz e f):=(acn h hn).2.2.2.2.1
theorem at6 (h:FrR K f) (hn:Rg e.now):LfP K e f (ahj e f):=(acn h hn).2.2.2.2.2.1
theorem arC (h:FrR K f) (hn:Rg e.now):LfP K e f (afD e f):=(acn h hn).2.2.2.2.2.2.1
theorem auS (h:FrR K f) (hn:Rg e.now):LfP K e f (ahA e f):=(acn h hn).2.2.2.2.2.2.2.1
theorem avW (h:FrR K f) (hn:Rg e.now):LfP K e f (akq e f):=(acn h hn).2.2.2.2.2.2.2.2.1
theorem aym (h:FrR K f) (hn:Rg e.now):LfP K e f (aph e f):=(acn h hn).2.2.2.2.2.2.2.2.2.1
theorem avj (h:FrR K f) (hn:Rg e.now):LfP K e f (akk e f):=(acn h hn).2.2.2.2.2.2.2.2.2.2.1
theorem avv (h:FrR K f) (hn:Rg e.now):LfP K e f (akm e f):=(acn h hn).2.2.2.2.2.2.2.2.2.2.2.1
theorem ayn (h:FrR K f) (hn:Rg e.now):LfP K e f (apj e f):=(acn h hn).2.2.2.2.2.2.2.2.2.2.2.2.1
theorem axD (h:FrR K f) (hn:Rg e.now):LfP K e f (akH e f):=(acn h hn).2.2.2.2.2.2.2.2.2.2.2.2.2
theorem axR (h:FrR K f):LfP K e f (akJ e f):=by
 obtain ⟨ha_,hb_,hd_,hi_,hj_,hn_,ht_,hl_,hu_,hcap_,hln_⟩:=h.all
 unfold akJ
 split
 ·refine ⟨h.up,rfl,h.b,EQ.em (EP.refl.ac.put fun hr =>?_) ?_ ?_ ?_ ?_ ?_⟩
  ·have:=avV hr f.b
   exact ⟨Nat.le_succ_of_le this.1,this.2⟩
  ·split<;>exact aam (by decide)
  all_goals (with_reducible first | assumption | exact aaP _ | exact aaH _ | exact aav _ | exact aam (by decide))
 ·refine ⟨h.up,rfl,rg0,EQ.em EP.refl.ac ?_ ?_ ?_ ?_ ?_⟩<;>(with_reducible first | assumption | exact aaP _ | exact aaH _ | exact aav _ | exact aam (by decide))
theorem ayd (h:FrR K f):LfP K e f (ahJ e f)∧(ahJ e f).1.done=true∧(ahJ e f).2.1.recs=e.recs∧((ahJ e f).1.code=3∨acE e (ahJ e f).1.value):=by
 unfold ahJ
 split
 ·rename_i hh; exact ⟨⟨h.up,rfl,aaP _,EQ.of EP.refl.ac⟩,rfl,rfl,.inr hh⟩
 ·exact ⟨⟨h.up,rfl,rg0,EQ.of EP.refl.ac⟩,rfl,rfl,.inl rfl⟩
theorem awn (h:FrR K f) (hc:CfgOk e.c) (hd:Rg e.draw) (hi:0≤f.i∧f.i≤e.c.workers):LfP K e f (aip e f)∧((aip e f).1.done=false→0≤(aip e f).2.2.i∧(aip e f).2.2.i≤e.c.workers):=by
 obtain ⟨ha_,hb_,hd_,hi_,hj_,hn_,ht_,hl_,hu_,hcap_,hln_⟩:=h.all
 have w1:=hc.w1
 have w2:=hc.w2
 have hb:FrR K (af8 e f)∧(af8 e f).kind=f.kind∧(af8 e f).i=f.i:=by
  unfold af8
  split
  ·have hdr:Rg (acs e.draw e.c.workers):=axC (by omega)
   refine ⟨?_,rfl,rfl⟩
   constructor<;>(try dsimp only)<;>first | exact hdr | exact h.a | exact h.b | exact h.d | exact h.i | exact h.l | exact h.ln | exact h.cap | exact aam (by decide)
  ·exact ⟨h,rfl,rfl⟩
 unfold aip
 generalize af8 e f=g at hb
 obtain ⟨hg,hk,hgi⟩:=hb
 suffices H:LfP K e g (ajl e g)∧((ajl e g).1.done=false→0≤(ajl e g).2.2.i∧(ajl e g).2.2.i≤e.c.workers) from ⟨⟨H.1.fr,H.1.kind.trans hk,H.1.val,H.1.env⟩,H.2⟩
 rw [← hgi] at hi
 clear h hk hgi
 have h:=hg
 obtain ⟨ha_,hb_,hd_,hi_,hj_,hn_,ht_,hl_,hu_,hcap_,hln_⟩:=h.all
 have hI:g.i≤ad5 e g∧ad5 e g≤g.i+1:=by
  unfold ad5
  split
  ·rw [acH (aam (by omega))]; omega
  ·omega
 have hI2:wi (ad5 e g+1)=ad5 e g+1:=acH (aam (by omega))
 have hv:Rg (adJ e g):=anK w1 (by omega)
 have hf:FrR (K+1) (acK e g)∧(acK e g).kind=g.kind∧(acK e g).i=ad5 e g+1:=by
  unfold acK
  have hh:Rg (aht e g):=aav _
  split
  ·refine ⟨?_,rfl,hI2⟩
   (constructor<;>(try dsimp only)<;>with_reducible first | assumption | exact aaP _ | exact aaH _ | exact aav _ | exact aam (by decide))
  ·refine ⟨?_,rfl,hI2⟩
   (constructor<;>(try dsimp only)<;>with_reducible first | assumption | exact aaP _ | exact aaH _ | exact aav _ | exact aam (by decide))
 unfold ajl
 split
 ·exact ⟨⟨h.up,rfl,rg0,EQ.of EP.refl⟩,fun e =>by cases e⟩
 split
 ·rename_i hl
  refine ⟨⟨hf.1,hf.2.1,rg0,EQ.of EP.refl.ac⟩,fun _ =>?_⟩
  show 0≤(acK e g).i∧(acK e g).i≤e.c.workers
  rw [hf.2.2]
  rw [hI2] at hl
  by_cases hw:ad5 e g+1<e.c.workers
  ·omega
  ·exfalso
   unfold aB5 at hl
   rw [show (e.c.workers-(ad5 e g+1)).toNat=0 by omega] at hl
   cases hl
 split
 ·exact ⟨⟨hf.1,hf.2.1,rg0,EQ.of EP.refl.ac⟩,fun e =>by cases e⟩
 ·exact ⟨⟨hf.1,hf.2.1,aaP _,EQ.of EP.refl.ac⟩,fun e =>by cases e⟩
def amn (c:Cfg) (f:FrV):Prop:=f.l≠[]∧f.line≠3∧f.line≠5∧f.line≠23∧(f.line≠1→0≤abl f.l∧abl f.l<c.tasks)
theorem avg (h:FrR K f):Rg (abl f.l):=by
 unfold abl
 cases hl:f.l.getLast? with
 | none =>exact aam (by decide)
 | some x =>exact h.l x (List.mem_of_getLast? hl)
theorem ahy (h:FrR K f) (he:EQ K e e'):LfP K e f (ad6 e' f)∧(f.l≠[]→(ad6 e' f).1.done=false→amn e.c (ad6 e' f).2.2):=by
 obtain ⟨ha_,hb_,hd_,hi_,hj_,hn_,ht_,hl_,hu_,hcap_,hln_⟩:=h.all
 have hf:FrR (K+1) { f with line:=1,l:=f.l.dropLast }:=by
  have hln:f.l.dropLast.length≤K+1:=by have:=h.ln; simp; omega
  have hl2:∀ x∈f.l.dropLast,Rg x:=fun x hx =>h.l x (List.mem_of_mem_take (by rw [List.dropLast_eq_take] at hx; exact hx))
  (constructor<;>(try dsimp only)<;>with_reducible first | assumption | exact aaP _ | exact aaH _ | exact aav _ | exact aam (by decide))
 unfold ad6
 split
 ·exact ⟨⟨hf,rfl,rg0,he⟩,fun _ e =>by cases e⟩
 ·rename_i hl
  refine ⟨⟨hf,rfl,rg0,he⟩,fun hne _ =>⟨?_,by simp [go],by simp [go],by simp [go],fun e =>absurd rfl e⟩⟩
  show f.l.dropLast≠[]
  intro e0
  have h1:=List.length_pos_iff.2 hne
  have h2:=congrArg List.length e0
  simp at h2
  omega
theorem auO (h:FrR K f) (hl:f.l≠[]) (ht:0≤abl f.l∧abl f.l<e.c.tasks):LfP K e f (agJ e f (abl f.l))∧((agJ e f (abl f.l)).1.done=false→amn e.c (agJ e f (abl f.l)).2.2):=by
 obtain ⟨ha_,hb_,hd_,hi_,hj_,hn_,ht_,hl_,hu_,hcap_,hln_⟩:=h.all
 have hT:=avg h
 unfold agJ
 split
 ·refine ⟨?_,fun _ =>⟨hl,by simp [go],by simp [go],by simp [go],fun _ =>ht⟩⟩
  (refine ⟨?_,rfl,?_,?_⟩<;>(try dsimp only [go,fin])<;>first | (with_reducible first | assumption | exact aaP _ | exact aaH _ | exact aav _ | exact aam (by decide)) | exact EQ.of EP.refl | exact EQ.of EP.refl.ac | ((first | refine EQ.em EP.refl ?_ ?_ ?_ ?_ ?_ | refine EQ.em EP.refl.ac ?_ ?_ ?_ ?_ ?_ | constructor)<;>(try dsimp only)<;>with_reducible first | assumption | exact aaP _ | exact aaH _ | exact aav _ | exact aam (by decide)))
 split
 ·split
  ·have:=ahy (e:=e) h (EQ.em (e':=e.ac 3 (abf e.c (abl f.l) 2) 0 4294967296) (k:=10) (w:=f.a) (t:=abl f.l) (o:=0) (l:=0) EP.refl.ac (aam (by decide)) h.a hT (aam (by decide)) (aam (by decide)))
   exact ⟨this.1,this.2 hl⟩
  ·refine ⟨?_,fun _ =>⟨hl,by simp [go],by simp [go],by simp [go],fun _ =>ht⟩⟩
   (refine ⟨?_,rfl,?_,?_⟩<;>(try dsimp only [go,fin])<;>first | (with_reducible first | assumption | exact aaP _ | exact aaH _ | exact aav _ | exact aam (by decide)) | exact EQ.of EP.refl | exact EQ.of EP.refl.ac | ((first | refine EQ.em EP.refl ?_ ?_ ?_ ?_ ?_ | refine EQ.em EP.refl.ac ?_ ?_ ?_ ?_ ?_ | constructor)<;>(try dsimp only)<;>with_reducible first | assumption | exact aaP _ | exact aaH _ | exact aav _ | exact aam (by decide)))
 split
 ·refine ⟨?_,fun _ =>⟨hl,by simp [go],by simp [go],by simp [go],fun _ =>ht⟩⟩
  (refine ⟨?_,rfl,?_,?_⟩<;>(try dsimp only [go,fin])<;>first | (with_reducible first | assumption | exact aaP _ | exact aaH _ | exact aav _ | exact aam (by decide)) | exact EQ.of EP.refl | exact EQ.of EP.refl.ac | ((first | refine EQ.em EP.refl ?_ ?_ ?_ ?_ ?_ | refine EQ.em EP.refl.ac ?_ ?_ ?_ ?_ ?_ | constructor)<;>(try dsimp only)<;>with_reducible first | assumption | exact aaP _ | exact aaH _ | exact aav _ | exact aam (by decide)))
 ·have h2:FrR K { f with n:=wi (wu (e.ld (abf e.c (abl f.l) 2)-1)) }:=⟨h.a,h.b,h.d,h.i,h.j,aaP _,h.t,h.l,h.ln,h.cap⟩
  have:=ahy (e:=e) (e':=e.lm (abf e.c (abl f.l) 2)) h2 (EQ.of EP.refl.ac)
  exact ⟨⟨this.1.fr,this.1.kind,this.1.val,this.1.env⟩,this.2 hl⟩
theorem aBv (h:FrR K f) (hl:f.l≠[]) (ht:f.line≠23→0≤abl f.l∧abl f.l<e.c.tasks):LfP K e f (ayI e f)∧((ayI e f).1.done=false→amn e.c (ayI e f).2.2):=by
 obtain ⟨ha_,hb_,hd_,hi_,hj_,hn_,ht_,hl_,hu_,hcap_,hln_⟩:=h.all
 have hT:=avg h
 have hr:∀ {r:RecV},r.kids=(e.rc (abl f.l)).kids→ava K e.c e.recs→r.kids.length≤K+1∧∀ x∈r.kids,Rg x:=fun hk hr =>by
  have:=avV hr (abl f.l)
  rw [hk]; exact ⟨Nat.le_succ_of_le this.1,this.2⟩
 unfold ayI
 by_cases h23:f.line=23
 ·rw [if_pos h23]; exact ⟨⟨h.up,rfl,rg0,EQ.of EP.refl⟩,fun e =>by cases e⟩
 rw [if_neg h23]
 have ht:=ht h23
 by_cases h2:f.line=2
 ·rw [if_pos h2]
  refine ⟨⟨?_,rfl,rg0,EQ.of (EP.refl.ac.put (hr rfl))⟩,fun _ =>⟨hl,by simp [go],by simp [go],by simp [go],fun _ =>ht⟩⟩
  dsimp only [go]; (constructor<;>(try dsimp only)<;>with_reducible first | assumption | exact aaP _ | exact aaH _ | exact aav _ | exact aam (by decide))
 rw [if_neg h2]
 by_cases h3:f.line=3
 ·rw [if_pos h3]
  refine ⟨⟨?_,rfl,rg0,EQ.of (EP.refl.put (hr ?_))⟩,fun _ =>⟨hl,by simp [go],by simp [go],by simp [go],fun _ =>ht⟩⟩
  ·dsimp only [go]; (constructor<;>(try dsimp only)<;>with_reducible first | assumption | exact aaP _ | exact aaH _ | exact aav _ | exact aam (by decide))
  ·unfold aCD
   repeat' split
   all_goals rfl
 rw [if_neg h3]
 by_cases h4:f.line=4
 ·rw [if_pos h4]
  refine ⟨⟨?_,rfl,rg0,EQ.of (EP.refl.put (hr rfl))⟩,fun _ =>⟨hl,by simp [go],by simp [go],by simp [go],fun _ =>ht⟩⟩
  dsimp only [go]; (constructor<;>(try dsimp only)<;>with_reducible first | assumption | exact aaP _ | exact aaH _ | exact aav _ | exact aam (by decide))
 rw [if_neg h4]
 by_cases h10:f.line=10
 ·rw [if_pos h10]
  refine ⟨⟨?_,rfl,rg0,EQ.of (EP.refl.ac.put (hr rfl))⟩,fun _ =>⟨hl,by simp [go],by simp [go],by simp [go],fun _ =>ht⟩⟩
  dsimp only [go]; (constructor<;>(try dsimp only)<;>with_reducible first | assumption | exact aaP _ | exact aaH _ | exact aav _ | exact aam (by decide))
 rw [if_neg h10]
 by_cases h16:f.line=16
 ·simp only [h16,if_true,if_false,Int.reduceEq]
  refine ⟨⟨?_,rfl,rg0,EQ.em (EP.refl.ac.put (hr (r:={ e.rc (abl f.l) with waiting := -1 }) rfl)) ?_ ?_ ?_ ?_ ?_⟩,fun _ =>⟨hl,by simp [go],by simp [go],by simp [go],fun _ =>ht⟩⟩
  ·dsimp only [go]; (constructor<;>(try dsimp only)<;>with_reducible first | assumption | exact aaP _ | exact aaH _ | exact aav _ | exact aam (by decide))
  all_goals (with_reducible first | assumption | exact aaP _ | exact aaH _ | exact aav _ | exact aam (by decide))
 simp only [if_neg h16]
 by_cases h11:f.line=11∨f.line=12∨f.line=13∨f.line=15
 ·repeat' split
  all_goals first
   | (refine ⟨?_,fun _ =>⟨hl,by simp [go],by simp [go],by simp [go],fun _ =>ht⟩⟩; (refine ⟨?_,rfl,?_,?_⟩<;>(try dsimp only [go,fin])<;>first | (with_reducible first | assumption | exact aaP _ | exact aaH _ | exact aav _ | exact aam (by decide)) | exact EQ.of EP.refl | exact EQ.of EP.refl.ac | ((first | refine EQ.em EP.refl ?_ ?_ ?_ ?_ ?_ | refine EQ.em EP.refl.ac ?_ ?_ ?_ ?_ ?_ | constructor)<;>(try dsimp only)<;>with_reducible first | assumption | exact aaP _ | exact aaH _ | exact aav _ | exact aam (by decide))))
   | (exfalso; omega)
 ·rw [if_neg (by omega),if_neg (by omega),if_neg (by omega),if_neg (by omega)]
  exact auO h hl ht
theorem auX (h:FrR K f) (hc:CfgOk e.c) (hi:0≤f.i∧f.i≤(e.c.subs.length:Int)):LfP K e f (ahB e f)∧(ahB e f).2.2.i=f.i:=by
 obtain ⟨ha_,hb_,hd_,hi_,hj_,hn_,ht_,hl_,hu_,hcap_,hln_⟩:=h.all
 have w1:=hc.w1
 have w2:=hc.w2
 have hw:Rg e.c.workers:=aam (by omega)
 unfold ahB
 repeat' split
 all_goals
  refine ⟨?_,rfl⟩
  (refine ⟨?_,rfl,?_,?_⟩<;>(try dsimp only [go,fin])<;>first | (with_reducible first | assumption | exact aaP _ | exact aaH _ | exact aav _ | exact aam (by decide)) | exact EQ.of EP.refl | exact EQ.of EP.refl.ac | ((first | refine EQ.em EP.refl ?_ ?_ ?_ ?_ ?_ | refine EQ.em EP.refl.ac ?_ ?_ ?_ ?_ ?_ | constructor)<;>(try dsimp only)<;>with_reducible first | assumption | exact aaP _ | exact aaH _ | exact aav _ | exact aam (by decide)))
end
end
end Go.Proofs.YtjjbdbbmdhncjaaGreat
