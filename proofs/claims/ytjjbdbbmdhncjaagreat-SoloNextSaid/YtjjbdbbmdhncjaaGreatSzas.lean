/- From the readings of the arguments to our words: bytes,ints. From the readings of the arguments to our words: numbers of 64 bits,truth values. -/
import Derived.Test.YtjjbdbbmdhncjaaGreatSzar
set_option linter.all false
namespace Go.Proofs.YtjjbdbbmdhncjaaGreat
section
open Go.ChangeShapes Go.WideShapes Go.RowKit Go.Deep
set_option maxRecDepth 100000
theorem aAa:Tryz.prog.cellsOf 3=1:=by kernel_rfl
theorem axU:Tryz.prog.cellsOf 5=1:=by kernel_rfl
theorem aAk {z:Int} (h:(Lit.int .i64 z).wf=true):-9223372036854775808≤z∧z≤9223372036854775807:=by
 simp [Lit.wf,IntKind.min,IntKind.max,IntKind.bits,IntKind.signed] at h
 omega
section
variable {H:Type} {enc:TypeId×Value→H} {w:World} {base:Nat} {spare:Nat→Bool} {held:Bool}
theorem azE (n:Nat) (cs:List Value) (d:DataW H×List MemPlace) (h:DataW.trod enc Tryz.prog w base spare held n 3 cs=some d) (_:cs.length=1):∃ y:Int,(-9223372036854775808≤y∧y≤9223372036854775807)∧cs=aex SR1.kt 1 y:=by
 obtain ⟨z,hz,_,hw⟩:=DataW.trod_int Tryz.underlying3 h
 exact ⟨z,aAk hw,hz⟩
theorem axY (n:Nat) (cs:List Value) (d:DataW H×List MemPlace) (h:DataW.trod enc Tryz.prog w base spare held n 5 cs=some d) (_:cs.length=1):∃ y:Int,(0≤y∧y≤255)∧cs=aex SR1.kt 17 y:=by
 obtain ⟨z,hz,_,hw⟩:=DataW.trod_int Tryz.underlying5 h
 simp [Lit.wf,IntKind.min,IntKind.max,IntKind.bits,IntKind.signed] at hw
 exact ⟨z,by omega,hz⟩
theorem alq {t e:TypeId} {r:Reach} {b0:Nat} {v:Value} {A:Option Addr} {n cap:Nat} (ht:Tryz.prog.underlying t=some (.slice e)) (hv:Value.okWide Tryz.prog w r b0 t v) (h1:v.cells.toList=[.slice A n cap]):v=.slice A n cap:=by
 obtain ⟨a,len,c,rfl⟩:=okWide_slice ht hv
 simp [Value.cells] at h1
 rw [h1.1,h1.2.1,h1.2.2]
theorem aBC {c:Nat} {l:List (SR1.T c)} {v:Value} {A:Option Addr} {cap:Nat} {L:List aak} (hz:0<SR1.kt.sz c) (henc:∀ x,(aex SR1.kt c x).length=SR1.kt.sz c) (hv:v=.slice A l.length cap) (hS:Sl (aex SR1.kt c) (SR1.kt.sz c) w w.heap.size A l) (hc:l.length≤cap) (s:Sat w.heap.size w L):Sat w.heap.size w (pcS SR1.kt (.ro c l) v::L) :=
 abU (fun h hr =>⟨0,A,cap,hv,hr⟩) (aDn hz henc hS hc s)
theorem atD {v:Value} {d:DataW H} {p:List MemPlace} {r:Reach} {b0:Nat} (hv:Value.okWide Tryz.prog w r b0 22 v) (h:DataW.Trod enc Tryz.prog w base spare held 22 v d p):∃ l:List Int,(∀ x∈l,0≤x∧x≤255)∧∀ {L},Sat w.heap.size w L→Sat w.heap.size w (pcS SR1.kt (.ro 17 l) v::L):=by
 obtain ⟨fuel,hf⟩:=h
 obtain ⟨A,cap,xs,h1,h2,h3,h4⟩:=aq9 Tryz.underlying22 axU (by decide) axY hf
 exact ⟨xs,h3,fun s =>aBC (c:=17) (by decide) (fun _ =>rfl) (alq Tryz.underlying22 hv h1) h2 h4 s⟩
theorem aCd {v:Value} {d:DataW H} {p:List MemPlace} {r:Reach} {b0:Nat} (hv:Value.okWide Tryz.prog w r b0 24 v) (h:DataW.Trod enc Tryz.prog w base spare held 24 v d p):∃ l:List Int,(∀ x∈l,-9223372036854775808≤x∧x≤9223372036854775807)∧∀ {L},Sat w.heap.size w L→Sat w.heap.size w (pcS SR1.kt (.ro 1 l) v::L):=by
 obtain ⟨fuel,hf⟩:=h
 obtain ⟨A,cap,xs,h1,h2,h3,h4⟩:=aq9 Tryz.underlying24 aAa (by decide) azE hf
 exact ⟨xs,h3,fun s =>aBC (c:=1) (by decide) (fun _ =>rfl) (alq Tryz.underlying24 hv h1) h2 h4 s⟩
theorem aw2 {v:Value} {d:DataW H} {p:List MemPlace} {r:Reach} {b0:Nat} (hv:Value.okWide Tryz.prog w r b0 3 v) (h:DataW.Trod enc Tryz.prog w base spare held 3 v d p):∃ z:Int,(-9223372036854775808≤z∧z≤9223372036854775807)∧∀ {L},Sat w.heap.size w L→Sat w.heap.size w (pcS SR1.kt (.i .i64 z) v::L):=by
 obtain ⟨n,rfl⟩:=okWide_int Tryz.underlying3 hv
 obtain ⟨fuel,hf⟩:=h
 obtain ⟨z,hz,_,hw⟩:=DataW.trod_int Tryz.underlying3 hf
 simp [Value.cells] at hz
 subst hz
 exact ⟨n,aAk hw,fun s =>aAr (S:=SR1) s⟩
end
theorem awW [Tb] {f:FuncId} {ps:List Pk} {spec:aqQ SR1 ps→Option (atQ SR1 [.sh .b]×apd SR1 ps)} {P:Program} (hf:Nat.blt f ae8=true) (h:aAi SR1 P f ps [.sh .b] spec) {x:aqQ SR1 ps} {o:apd SR1 ps} (hx:spec x=some ((true,()),o)) {vs:List Value} {w:World} (hg:aES w.heap.size w) (s:Sat w.heap.size w (amo SR1 ps x vs++[fun _ =>True])) :
  Calls P f vs.toArray w fun e w' =>e=.returned (.bool true)∧Below w.heap.size w w':=by
 have h0:=h x _ hx w.heap.size w hg vs (fun _ =>True) w ⟨Below.refl _ _,Nat.le_refl _,s⟩
 rw [aeT hf] at h0
 refine h0.mono fun e w' ⟨us,he,hb,_,s'⟩ =>?_
 rcases us with _ | ⟨u,_ | ⟨u2,us⟩⟩
 ·exact ab5 s'
 ·have s2:Sat w.heap.size w' (akP (u=.bool true)::_):=abU (ak2 (f:=.b true) (fun _ h =>h) fun _ _ h =>h) s'
  obtain ⟨_,_,_,_,_,_,h1,_⟩:=s2
  subst h1
  exact ⟨he,hb⟩
 ·exact ab5 s'.drop
theorem az9:Tryz.prog.cellsOf 38=1:=by kernel_rfl
section
variable {H:Type} {enc:TypeId×Value→H} {w:World} {base:Nat} {spare:Nat→Bool} {held:Bool}
theorem ayq (n:Nat) (cs:List Value) (d:DataW H×List MemPlace) (h:DataW.trod enc Tryz.prog w base spare held n 38 cs=some d) (_:cs.length=1):∃ y:Int,UR y∧cs=aex SR1.kt 0 y:=by
 obtain ⟨z,hz,_,hw⟩:=DataW.trod_int Tryz.underlying38 h
 simp [Lit.wf,IntKind.min,IntKind.max,IntKind.bits,IntKind.signed] at hw
 exact ⟨z,⟨by omega,by omega⟩,hz⟩
theorem aA5 {v:Value} {d:DataW H} {p:List MemPlace} {r:Reach} {b0:Nat} (hv:Value.okWide Tryz.prog w r b0 23 v) (h:DataW.Trod enc Tryz.prog w base spare held 23 v d p):∃ l:List Int,(∀ x∈l,UR x)∧∀ {L},Sat w.heap.size w L→Sat w.heap.size w (pcS SR1.kt (.ro 0 l) v::L):=by
 obtain ⟨fuel,hf⟩:=h
 obtain ⟨A,cap,xs,h1,h2,h3,h4⟩:=aq9 Tryz.underlying23 az9 (by decide) ayq hf
 exact ⟨xs,h3,fun s =>aBC (c:=0) (by decide) (fun _ =>rfl) (alq Tryz.underlying23 hv h1) h2 h4 s⟩
theorem aCH {v:Value} {d:DataW H} {p:List MemPlace} {r:Reach} {b0:Nat} (hv:Value.okWide Tryz.prog w r b0 4 v) (_:DataW.Trod enc Tryz.prog w base spare held 4 v d p):∃ z:Bool,True∧∀ {L},Sat w.heap.size w L→Sat w.heap.size w (pcS SR1.kt (.b z) v::L):=by
 obtain ⟨b,rfl⟩:=okWide_bool Tryz.underlying4 hv
 exact ⟨b,trivial,fun s =>abP s fun _ =>⟨0,rfl⟩⟩
end
end
end Go.Proofs.YtjjbdbbmdhncjaaGreat
