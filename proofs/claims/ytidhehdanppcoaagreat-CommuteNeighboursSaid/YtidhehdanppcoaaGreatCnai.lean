/- The check of a configuration,in the evaluator's words. What it means that an answer is there; numbers; loops. Walks: park.Asleep. park.Asleep in the evaluator's form. bits.TrailingZeros64 over any table. Walks: slices.Clone at the rows of an environment. slices.Clone at the rows of an environment,in the evaluator's words. The program's machines in the evaluator's form. -/
import Derived.Test.YtidhehdanppcoaaGreatCnah
import Derived.Test.YtidhehdanppcoaaGreatRows
import Derived.Test.YtidhehdanppcoaaGreatCnaa
import Derived.WalkKit
set_option linter.all false
namespace Go.Proofs.YtidhehdanppcoaaGreat
section
open Go Go.RowKit
variable [Tb]
theorem aIr {f:FuncId} (hf:Nat.blt f agW=true) {r:Cfg→Int} (h:∀ (c:Cfg) (l:CfgAt) (w:World),anL w w.heap.size c l→Calls Tryz.prog f #[awe c l] w fun e w' =>e=.returned (.int .i64 (r c))∧Below w.heap.size w w') :
  CO Tryz.prog (⟨f,[.val 13],[.sh sI_],fun x =>some ((r x.1,()),())⟩:Con SR1):=fun x out hx B W hg vs F w hc =>by
 obtain ⟨hb,hB,hs⟩:=hc
 replace hx:(some ((r x.1,()),()):Option ((Int×Unit)×Unit))=some out:=hx
 obtain rfl:=Option.some.inj hx
 show afA Tryz.prog f _ w _
 rw [adG hf]
 rcases vs with _ | ⟨v1,_ | ⟨v2,vs⟩⟩
 ·exact aaA hs
 ·replace hs:Sat B w (aDe SR1 13 x.1 v1::[F]):=hs
  obtain ⟨p,rfl,hp,s1⟩:=aGR hs
  exact (h x.1 p w hp).mono fun e w' ⟨he,hb'⟩ =>⟨[.int .i64 (r x.1)],he,hb.trans (hb'.mono hB),Nat.le_trans hB hb'.size,aFv (S:=SR1) (s1.below hb')⟩
 ·replace hs:Sat B w (aDe SR1 13 x.1 v1::([fun _ =>False]++[F])):=hs
  exact aaA hs.drop
def at9 (c:Cfg):Option ((Int×Unit)×Unit):=some ((agQ c,()),())
noncomputable abbrev asy:Con SR1:=⟨69,[.val 13],[.sh sI_],fun x =>at9 x.1⟩
theorem axs:CO Tryz.prog asy:=aIr (by kernel_rfl) avW
end
section
open Go
def aan {α:Type} (o:Option α) (P:α→Prop):Prop:=∃ x,o=some x∧P x
section
variable {α β:Type} {o:Option α} {P Q:α→Prop} {x:α}
theorem aan.some_ (h:P x):aan (some x) P:=⟨x,rfl,h⟩
theorem aan.bind {f:α→Option β} {Q:β→Prop} (h:aan o P) (k:∀ x,P x→aan (f x) Q):aan (o.bind f) Q:=by
 obtain ⟨x,rfl,hx⟩:=h
 exact k x hx
theorem aan.ite {c:Prop} [Decidable c] {a b:Option α} (h1:c→aan a P) (h2:¬ c→aan b P):aan (if c then a else b) P:=by
 by_cases h:c
 ·rw [if_pos h]; exact h1 h
 ·rw [if_neg h]; exact h2 h
theorem aan.guard {c:Prop} [Decidable c] {a b:Option α} (h:c) (k:c→aan a P):aan (if c then a else b) P:=by rw [if_pos h]; exact k h
theorem aan.mono (h:aan o P) (k:∀ x,P x→Q x):aan o Q:=by
 obtain ⟨x,e,hx⟩:=h
 exact ⟨x,e,k x hx⟩
end
def Rg (x:Int):Prop := -9223372036854775808≤x∧x≤9223372036854775807
theorem aaK {x:Int} (h:Rg x):wi x=x:=w64 h.1 h.2
theorem aao {x:Int} (h:-1000000000000≤x∧x≤1000000000000):Rg x:=by unfold Rg; omega
theorem aAc {a b:Int} (h1:1≤b) (h2:0≤a):0≤Int.tmod a b∧Int.tmod a b<b:=⟨Int.tmod_nonneg b h2,Int.tmod_lt_of_pos a (by omega)⟩
theorem abK {σ β:Type} {F:(σ→Option β)→σ→Option β} (I:σ→Prop) (μ:σ→Nat) {P:β→Prop} (step:∀ self x,I x→(∀ y,I y→μ y<μ x→aan (self y) P)→aan (F self x) P):∀ k x,I x→μ x<k→aan (lpF F k x) P
 | 0,x,_,h =>by omega
 | k+1,x,hx,h =>step (lpF F k) x hx fun y hy hlt =>abK I μ step k y hy (by omega)
theorem auf {α:Type} {d:α} {xs:List α} {i:Int} (h:0≤i∧i<(xs.length:Int)):atL d xs i∈xs:=List.mem_of_getElem? (adL h)
theorem aoB {α β:Type} {G:Prop} [d:Decidable G] (A:Option α) (f:α→Option β):(A.bind fun r =>if G then f r else none)=if G then A.bind f else none:=by
 by_cases h:G
 ·simp only [if_pos h]
 ·simp only [if_neg h]; cases A<;>rfl
end
section
open Go.RowKit Go.Maps
set_option maxRecDepth 100000
theorem aAg (w:World):(Go.underlying 140).run Tryz.prog w=.ok (.pointer 145) w:=acw Tryz.underlying140
theorem aAf (w:World):(zeroValue 140).run Tryz.prog w=.ok (.pointer none) w:=by
 obtain ⟨i,hi⟩:∃ i,Tryz.prog.info? 140=some i∧i.zero=some (.pointer none):=⟨_,rfl,by kernel_rfl⟩
 unfold zeroValue
 rw [aaa (acn hi.1)]
 simp [hi.2]
theorem aI5 (w:World):(Instr.typeAssert .nilIface 90 140 true).run Tryz.prog w=.ok (.tuple #[.pointer none,.bool false]) w:=by
 simp [Instr.typeAssert,aAg,aAf]
theorem aDj (w:World) (T:TypeId) (u:Value) (h:T≠140):(Instr.typeAssert (.iface T u) 90 140 true).run Tryz.prog w=.ok (.tuple #[.pointer none,.bool false]) w:=by
 simp [Instr.typeAssert,aAg,aAf,h]
theorem aLw (w:World) (u:Value):(Instr.typeAssert (.iface 140 u) 90 140 true).run Tryz.prog w=.ok (.tuple #[u,.bool true]) w:=by
 simp [Instr.typeAssert,aAg]
theorem azP (w:World):Calls Tryz.prog 61 #[.nilIface] w fun e w' =>e=.returned (.bool false)∧w'=w:=by
 have q:=aI5
 go_enter Tryz.func61,Tryz.ntmps61
 go_wp2
 go_ret
 exact ⟨rfl,rfl⟩
theorem av3 (w:World) (T:TypeId) (u:Value) (h:T≠140):Calls Tryz.prog 61 #[.iface T u] w fun e w' =>e=.returned (.bool false)∧w'=w:=by
 have q:∀ w,(Instr.typeAssert (.iface T u) 90 140 true).run Tryz.prog w=.ok (.tuple #[.pointer none,.bool false]) w:=fun w =>aDj w T u h
 clear h
 go_enter Tryz.func61,Tryz.ntmps61
 go_wp2
 go_ret
 exact ⟨rfl,rfl⟩
theorem av2 (w:World) (b o:Nat) (l:Int) (h:w.cell? ⟨b,o+4,none⟩=some (.int .i64 l)):Calls Tryz.prog 61 #[.iface 140 (.pointer (some ⟨b,o,none⟩))] w fun e w' =>e=.returned (.bool (decide (l=5)))∧w'=w:=by
 have q:∀ w,(Instr.typeAssert (.iface 140 (.pointer (some ⟨b,o,none⟩))) 90 140 true).run Tryz.prog w=.ok (.tuple #[.pointer (some ⟨b,o,none⟩),.bool true]) w:=fun w =>aLw w _
 go_enter Tryz.func61,Tryz.ntmps61
 go_wp2
 go_ret
 exact ⟨rfl,rfl⟩
end
section
open Go Go.RowKit
variable [Tb]
set_option maxRecDepth 100000
def asl:MV→Bool
 | .sleep x =>decide (x.line=5)
 | _ =>false
noncomputable def aoa (m:MV):Option ((Bool×Unit)×(MV×Unit)):=some ((asl m,()),(m,()))
noncomputable abbrev aks:Con SR1:=⟨61,[.mch],[.sh .b],fun x =>aoa x.1⟩
theorem azQ {m:MV} {B:Nat} {w:World} {v:Value} {F:aad} (hs:Sat B w (pcS SR1.kt (.mach m) v::[F])):Calls Tryz.prog 61 #[v] w fun e w' =>e=.returned (.bool (asl m))∧w'=w:=by
 obtain ⟨hh,Hh,j1,j2,ja,je,h1,hL⟩:=hs
 cases m
 case nil =>
  rw [aax] at h1
  obtain rfl:v=.nilIface:=h1
  exact azP w
 case sleep x =>
  obtain ⟨⟨q1,q2⟩,rfl,ho⟩:=(aiX (K:=SR1.kt) rfl).1 h1
  obtain ⟨vs,hst⟩:=aiv.1 ho
  obtain ⟨rfl,hp⟩:=amS (K:=SR1.kt) (L:=[pts q1 q2 vs]) rfl (abM (List.perm_append_comm (l₁:=[pts q1 q2 vs])) hst)
  have s2:Sat B w (pts q1 q2 _::[F]):=⟨hh,Hh,aaj.2 ⟨j1,j2,ja,je,hp,hL⟩⟩
  have hc:=(s2.cell (i:=4) (v:=.int .i64 x.line) rfl).2.1
  exact av2 w q1 q2 x.line hc
 all_goals
  obtain ⟨q,rfl,_⟩:=(aiX (K:=SR1.kt) rfl).1 h1
  exact av3 w _ _ (Nat.ne_of_beq_eq_false (by kernel_rfl))
theorem as8:CO Tryz.prog aks:=fun x out hx B W hg vs F w hw =>by
 obtain ⟨hb,hB,hs⟩:=hw
 obtain ⟨m,u⟩:=x
 cases hx
 show afA Tryz.prog aks.f _ w _
 rw [adG rfl]
 rcases vs with _ | ⟨v,_ | ⟨v2,vs⟩⟩
 ·exact aaA hs
 ·have hs0:Sat B w (pcS SR1.kt (.mach m) v::[F]):=hs
  refine (azQ hs0).mono fun e w' ⟨he,hw'⟩ =>⟨[.bool (asl m)],he,?_⟩
  subst hw'
  exact ⟨hb,hB,abw (p:=pcS SR1.kt (.b (asl m)) (.bool (asl m))) hs0 fun h =>aax.2 rfl⟩
 ·replace hs:Sat B w (pcS SR1.kt (.mach m) v::([fun _ =>False]++[F])):=hs
  exact aaA hs.drop
end
section
open Go Go.RowKit Go.Maps
set_option maxRecDepth 100000
def tzI (x:Int):Int:=IntKind.u64.wrap (bits BinOp.and IntKind.u64 x (IntKind.u64.wrap (-x))*285870213051353865) / 288230376151711744
theorem aI2 (a:Int):0≤IntKind.u64.wrap a∧IntKind.u64.wrap a≤18446744073709551615:=by
 simp only [IntKind.wrap,IntKind.bits,IntKind.signed]
 simp
 omega
theorem aAa (x:Int):0≤tzI x∧tzI x<64:=by
 unfold tzI
 have h:=aI2 (bits BinOp.and IntKind.u64 x (IntKind.u64.wrap (-x))*285870213051353865)
 omega
theorem aGg (w:World):Calls Tryz.prog 201 #[.int .u64 0] w fun e w' =>e=.returned (.int .i64 64)∧w'=w:=by
 go_enter Tryz.func201,Tryz.ntmps201
 go_wp2
 go_ret
 exact ⟨rfl,rfl⟩
theorem aDg (w:World) (x:Int) (h:¬ x=0) (b:Int) (hI:0≤IntKind.u64.wrap (bits BinOp.and IntKind.u64 x (IntKind.u64.wrap (-x))*285870213051353865) / 288230376151711744∧IntKind.u64.wrap (bits BinOp.and IntKind.u64 x (IntKind.u64.wrap (-x))*285870213051353865) / 288230376151711744<64) (hb:w.cell? ⟨0,(IntKind.u64.wrap (bits BinOp.and IntKind.u64 x (IntKind.u64.wrap (-x))*285870213051353865) / 288230376151711744).toNat,none⟩=some (.int .u8 b)):Calls Tryz.prog 201 #[.int .u64 x] w fun e w' =>e=.returned (.int .i64 (wrap64 b))∧w'=w:=by
 go_enter Tryz.func201,Tryz.ntmps201
 go_wp2
 go_ret
 exact ⟨rfl,rfl⟩
variable [T:Tb]
def tzV (x:Int):Int:=if x=0 then 64 else wrap64 (T.tb (tzI x).toNat)
def pTz (x:Int):Option ((Int×Unit)×Unit):=some ((tzV x,()),())
noncomputable abbrev aHg:Con SR1:=⟨201,[.sh sU_],[.sh sI_],fun x =>pTz x.1⟩
theorem aJx:CO Tryz.prog aHg:=fun x out hx B W hg vs F w hw =>by
 obtain ⟨hb,hB,hs⟩:=hw
 obtain ⟨(x:Int),u⟩:=x
 cases hx
 show afA Tryz.prog aHg.f _ w _
 rw [adG rfl]
 rcases vs with _ | ⟨v,_ | ⟨v2,vs⟩⟩
 ·exact aaA hs
 ·have hs0:Sat B w (pcS SR1.kt (.i .u64 x) v::[F]):=hs
  have hv:v=.int .u64 x:=by
   obtain ⟨_,_,_,_,_,_,h1,_⟩:=hs0
   exact (aax.1 h1:v=.int .u64 x)
  subst hv
  have hc:Calls Tryz.prog 201 #[.int .u64 x] w fun e w' =>e=.returned (.int .i64 (tzV x))∧w'=w:=by
   by_cases h:x=0
   ·subst h
    exact aGg w
   ·refine (aDg w x h (T.tb (tzI x).toNat) (aAa x) ?_).mono fun e w' ⟨he,hw⟩ =>⟨by rw [he]; unfold tzV; rw [if_neg h],hw⟩
    exact ((aue hb).1 0 _ hg.1).trans (hg.2 _ ((Int.toNat_lt (aAa x).1).2 (aAa x).2))
  refine hc.mono fun e w' ⟨he,hw'⟩ =>⟨[.int .i64 (tzV x)],he,?_⟩
  subst hw'
  exact ⟨hb,hB,abw (p:=pcS SR1.kt (.i .i64 (tzV x)) (.int .i64 (tzV x))) hs0.drop fun h =>aax.2 rfl⟩
 ·replace hs:Sat B w (pcS SR1.kt (.i .u64 x) v::([fun _ =>False]++[F])):=hs
  exact aaA hs.drop
end
section
open Go.RowKit Go.Maps
abbrev aMs:=Int×Int×Int×Int×Int×(Option Addr×Nat×Nat)×Bool
def aly (r:aMs):List Value:=[.int .i64 r.1,.int .i64 r.2.1,.int .i64 r.2.2.1,.int .i64 r.2.2.2.1,.int .i64 r.2.2.2.2.1,.slice r.2.2.2.2.2.1.1 r.2.2.2.2.2.1.2.1 r.2.2.2.2.2.1.2.2,.bool r.2.2.2.2.2.2]
def avJ (x:Int):List Value:=[.int .u64 x]
theorem aCo:(Tryz.prog.info? 53).map (fun i =>(i.zero,i.size,i.bytes))=some (some (.int .u64 0),1,8):=by kernel_rfl
set_option maxHeartbeats 2000000 in
theorem avP (A:Option Addr) (cap:Nat) (xs:List Int) (w:World) (hx:Sl avJ 1 w w.heap.size A xs) (hn:xs.length≤1000000) :
  Calls Tryz.prog 53 #[.slice A xs.length cap] w (alQ avJ 1 53 w xs):=by
 cases A with
 | none =>
  have hnil:xs=[]:=by
   rcases xs with _ | ⟨x,xs⟩
   ·rfl
   ·obtain ⟨b,o,e,_⟩:=hx.2 (by simp)
    cases e
  subst hnil
  have q:∀ (w:World) (a:Option Addr) (n c n' c':Nat),(binOp .eql 63 (.slice a n c) (.slice none n' c')).run Tryz.prog w=.ok (.bool a.isNone) w:=fun w a n c n' c' =>Lib.run_eql_slice_nil w _ _ a n c n' c' Tryz.underlying63
  go_enter Tryz.func53,Tryz.ntmps53
  go_wp2
  go_ret
  exact ⟨⟨none,0,rfl,World.ownsRow_nil _ _ _ _⟩,Below.refl _ _⟩
 | some a =>
  obtain ⟨i0,hi,hz0,hz1,hz2⟩:=info_parts aCo
  have q:∀ (w:World) (a:Option Addr) (n c n' c':Nat),(binOp .eql 63 (.slice a n c) (.slice none n' c')).run Tryz.prog w=.ok (.bool a.isNone) w:=fun w a n c n' c' =>Lib.run_eql_slice_nil w _ _ a n c n' c' Tryz.underlying63
  have hcell:=Lib.hid (alW (sz:=1) (w:=w) (B:=w.heap.size) (fun _ =>rfl) (by decide) hx (Obj.cells #[] 53))
  clear hx
  go_enter Tryz.func53,Tryz.ntmps53
  go_wp2_with (at_builtin; refine wpList_append_own_at _ rfl _ _ 63 rfl w.heap.size 53 i0 (.int .u64 0) 1 8 Tryz.underlying63 hi hz0 hz1 hz2 rfl (by decide) _ _ _ rfl (World.ownsRow_made w #[] 0 (Nat.le_refl _) (Nat.zero_le _) rfl) a xs.length cap (xs.flatMap avJ) rfl ?qc0 ?qc1 ?qc2 ?qc3 ?qc4 ?qc5 ?_)
  case qc0 =>exact afV (enc:=avJ) (sz:=1) (fun _ =>rfl) xs
  case qc1 =>exact hcell.out
  case qc2 =>intro u hu; rw [List.mem_flatMap] at hu; obtain ⟨x,_,hu⟩:=hu; simp [avJ] at hu; subst hu; rfl
  case qc3 =>unfold maxLen; omega
  case qc4 =>omega
  case qc5 =>simp
  intro v' w1 hown hgrow _ _
  obtain ⟨A',c',hv⟩:=ahL hown
  subst hv
  clear hcell
  go_wp2
  go_ret
  exact ⟨⟨A',c',by simp,by simpa using hown⟩,((Below.refl _ w).alloc (Nat.le_refl _) _).grown hgrow (by simp) (by intro k hk; simp [Value.ownBlock] at hk; omega)⟩
theorem aCp:(Tryz.prog.info? 3).map (fun i =>(i.zero,i.size,i.bytes))=some (some (.int .i64 0),1,8):=by kernel_rfl
set_option maxHeartbeats 2000000 in
theorem ao6 (A:Option Addr) (cap:Nat) (xs:List Int) (w:World) (hx:Sl arn 1 w w.heap.size A xs) (hn:xs.length≤1000000) :
  Calls Tryz.prog 59 #[.slice A xs.length cap] w (alQ arn 1 3 w xs):=by
 cases A with
 | none =>
  have hnil:xs=[]:=by
   rcases xs with _ | ⟨x,xs⟩
   ·rfl
   ·obtain ⟨b,o,e,_⟩:=hx.2 (by simp)
    cases e
  subst hnil
  have q:∀ (w:World) (a:Option Addr) (n c n' c':Nat),(binOp .eql 23 (.slice a n c) (.slice none n' c')).run Tryz.prog w=.ok (.bool a.isNone) w:=fun w a n c n' c' =>Lib.run_eql_slice_nil w _ _ a n c n' c' Tryz.underlying23
  go_enter Tryz.func59,Tryz.ntmps59
  go_wp2
  go_ret
  exact ⟨⟨none,0,rfl,World.ownsRow_nil _ _ _ _⟩,Below.refl _ _⟩
 | some a =>
  obtain ⟨i0,hi,hz0,hz1,hz2⟩:=info_parts aCp
  have q:∀ (w:World) (a:Option Addr) (n c n' c':Nat),(binOp .eql 23 (.slice a n c) (.slice none n' c')).run Tryz.prog w=.ok (.bool a.isNone) w:=fun w a n c n' c' =>Lib.run_eql_slice_nil w _ _ a n c n' c' Tryz.underlying23
  have hcell:=Lib.hid (alW (sz:=1) (w:=w) (B:=w.heap.size) (fun _ =>rfl) (by decide) hx (Obj.cells #[] 3))
  clear hx
  go_enter Tryz.func59,Tryz.ntmps59
  go_wp2_with (at_builtin; refine wpList_append_own_at _ rfl _ _ 23 rfl w.heap.size 3 i0 (.int .i64 0) 1 8 Tryz.underlying23 hi hz0 hz1 hz2 rfl (by decide) _ _ _ rfl (World.ownsRow_made w #[] 0 (Nat.le_refl _) (Nat.zero_le _) rfl) a xs.length cap (xs.flatMap arn) rfl ?qc0 ?qc1 ?qc2 ?qc3 ?qc4 ?qc5 ?_)
  case qc0 =>exact afV (enc:=arn) (sz:=1) (fun _ =>rfl) xs
  case qc1 =>exact hcell.out
  case qc2 =>intro u hu; rw [List.mem_flatMap] at hu; obtain ⟨x,_,hu⟩:=hu; simp [arn] at hu; subst hu; rfl
  case qc3 =>unfold maxLen; omega
  case qc4 =>omega
  case qc5 =>simp
  intro v' w1 hown hgrow _ _
  obtain ⟨A',c',hv⟩:=ahL hown
  subst hv
  clear hcell
  go_wp2
  go_ret
  exact ⟨⟨A',c',by simp,by simpa using hown⟩,((Below.refl _ w).alloc (Nat.le_refl _) _).grown hgrow (by simp) (by intro k hk; simp [Value.ownBlock] at hk; omega)⟩
theorem aCq:(Tryz.prog.info? 75).map (fun i =>(i.zero,i.size,i.bytes))=some (some (.agg #[.int .i64 0,.int .i64 0,.int .i64 0,.int .i64 0,.int .i64 0]),5,40):=by kernel_rfl
set_option maxHeartbeats 2000000 in
theorem avU (A:Option Addr) (cap:Nat) (xs:List Ev) (w:World) (hx:Sl Ev.enc 5 w w.heap.size A xs) (hn:xs.length≤1000000) :
  Calls Tryz.prog 58 #[.slice A xs.length cap] w (alQ Ev.enc 5 75 w xs):=by
 cases A with
 | none =>
  have hnil:xs=[]:=by
   rcases xs with _ | ⟨x,xs⟩
   ·rfl
   ·obtain ⟨b,o,e,_⟩:=hx.2 (by simp)
    cases e
  subst hnil
  have q:∀ (w:World) (a:Option Addr) (n c n' c':Nat),(binOp .eql 72 (.slice a n c) (.slice none n' c')).run Tryz.prog w=.ok (.bool a.isNone) w:=fun w a n c n' c' =>Lib.run_eql_slice_nil w _ _ a n c n' c' Tryz.underlying72
  go_enter Tryz.func58,Tryz.ntmps58
  go_wp2
  go_ret
  exact ⟨⟨none,0,rfl,World.ownsRow_nil _ _ _ _⟩,Below.refl _ _⟩
 | some a =>
  obtain ⟨i0,hi,hz0,hz1,hz2⟩:=info_parts aCq
  have q:∀ (w:World) (a:Option Addr) (n c n' c':Nat),(binOp .eql 72 (.slice a n c) (.slice none n' c')).run Tryz.prog w=.ok (.bool a.isNone) w:=fun w a n c n' c' =>Lib.run_eql_slice_nil w _ _ a n c n' c' Tryz.underlying72
  have hcell:=Lib.hid (alW (sz:=5) (w:=w) (B:=w.heap.size) (fun _ =>rfl) (by decide) hx (Obj.cells #[] 75))
  clear hx
  go_enter Tryz.func58,Tryz.ntmps58
  go_wp2_with (at_builtin; refine wpList_append_own_at _ rfl _ _ 72 rfl w.heap.size 75 i0 (.agg #[.int .i64 0,.int .i64 0,.int .i64 0,.int .i64 0,.int .i64 0]) 5 40 Tryz.underlying72 hi hz0 hz1 hz2 rfl (by decide) _ _ _ rfl (World.ownsRow_made w #[] 0 (Nat.le_refl _) (Nat.zero_le _) rfl) a xs.length cap (xs.flatMap Ev.enc) rfl ?qc0 ?qc1 ?qc2 ?qc3 ?qc4 ?qc5 ?_)
  case qc0 =>exact afV (enc:=Ev.enc) (sz:=5) (fun _ =>rfl) xs
  case qc1 =>exact hcell.out
  case qc2 =>intro u hu; rw [List.mem_flatMap] at hu; obtain ⟨x,_,hu⟩:=hu; simp [Ev.enc] at hu; rcases hu with rfl | rfl | rfl | rfl | rfl<;>rfl
  case qc3 =>unfold maxLen; omega
  case qc4 =>omega
  case qc5 =>simp
  intro v' w1 hown hgrow _ _
  obtain ⟨A',c',hv⟩:=ahL hown
  subst hv
  clear hcell
  go_wp2
  go_ret
  exact ⟨⟨A',c',by simp,by simpa using hown⟩,((Below.refl _ w).alloc (Nat.le_refl _) _).grown hgrow (by simp) (by intro k hk; simp [Value.ownBlock] at hk; omega)⟩
theorem azI:(Tryz.prog.info? 107).map (fun i =>(i.zero,i.size,i.bytes))=some (some (.agg #[.int .i64 0,.int .i64 0,.int .i64 0,.int .i64 0,.int .i64 0,.slice none 0 0,.bool false]),7,72):=by kernel_rfl
set_option maxHeartbeats 2000000 in
theorem at5 (A:Option Addr) (cap:Nat) (xs:List aMs) (w:World) (hx:Sl aly 7 w w.heap.size A xs) (hn:xs.length≤1000000) :
  Calls Tryz.prog 57 #[.slice A xs.length cap] w (alQ aly 7 107 w xs):=by
 cases A with
 | none =>
  have hnil:xs=[]:=by
   rcases xs with _ | ⟨x,xs⟩
   ·rfl
   ·obtain ⟨b,o,e,_⟩:=hx.2 (by simp)
    cases e
  subst hnil
  have q:∀ (w:World) (a:Option Addr) (n c n' c':Nat),(binOp .eql 66 (.slice a n c) (.slice none n' c')).run Tryz.prog w=.ok (.bool a.isNone) w:=fun w a n c n' c' =>Lib.run_eql_slice_nil w _ _ a n c n' c' Tryz.underlying66
  go_enter Tryz.func57,Tryz.ntmps57
  go_wp2
  go_ret
  exact ⟨⟨none,0,rfl,World.ownsRow_nil _ _ _ _⟩,Below.refl _ _⟩
 | some a =>
  obtain ⟨i0,hi,hz0,hz1,hz2⟩:=info_parts azI
  have q:∀ (w:World) (a:Option Addr) (n c n' c':Nat),(binOp .eql 66 (.slice a n c) (.slice none n' c')).run Tryz.prog w=.ok (.bool a.isNone) w:=fun w a n c n' c' =>Lib.run_eql_slice_nil w _ _ a n c n' c' Tryz.underlying66
  have hcell:=Lib.hid (alW (sz:=7) (w:=w) (B:=w.heap.size) (fun _ =>rfl) (by decide) hx (Obj.cells #[] 107))
  clear hx
  go_enter Tryz.func57,Tryz.ntmps57
  go_wp2_with (at_builtin; refine wpList_append_own_at _ rfl _ _ 66 rfl w.heap.size 107 i0 (.agg #[.int .i64 0,.int .i64 0,.int .i64 0,.int .i64 0,.int .i64 0,.slice none 0 0,.bool false]) 7 72 Tryz.underlying66 hi hz0 hz1 hz2 rfl (by decide) _ _ _ rfl (World.ownsRow_made w #[] 0 (Nat.le_refl _) (Nat.zero_le _) rfl) a xs.length cap (xs.flatMap aly) rfl ?qc0 ?qc1 ?qc2 ?qc3 ?qc4 ?qc5 ?_)
  case qc0 =>exact afV (enc:=aly) (sz:=7) (fun _ =>rfl) xs
  case qc1 =>exact hcell.out
  case qc2 =>intro u hu; rw [List.mem_flatMap] at hu; obtain ⟨x,_,hu⟩:=hu; simp [aly] at hu; rcases hu with rfl | rfl | rfl | rfl | rfl | rfl | rfl<;>rfl
  case qc3 =>unfold maxLen; omega
  case qc4 =>omega
  case qc5 =>simp
  intro v' w1 hown hgrow _ _
  obtain ⟨A',c',hv⟩:=ahL hown
  subst hv
  clear hcell
  go_wp2
  go_ret
  exact ⟨⟨A',c',by simp,by simpa using hown⟩,((Below.refl _ w).alloc (Nat.le_refl _) _).grown hgrow (by simp) (by intro k hk; simp [Value.ownBlock] at hk; omega)⟩
end
section
open Go Go.RowKit
variable [Tb]
noncomputable def anx (l:List Int):Option ((List Int×Unit)×(List Int×Unit)):=if l.length≤1000000 then some ((l,()),(l,())) else none
noncomputable abbrev asu:Con SR1:=⟨53,[.lent 0],[.sh (.row 0)],fun x =>anx x.1⟩
noncomputable def alm (l:List Ev):Option ((List Ev×Unit)×(List Ev×Unit)):=if l.length≤1000000 then some ((l,()),(l,())) else none
noncomputable abbrev asw:Con SR1:=⟨58,[.lent 2],[.sh (.row 2)],fun x =>alm x.1⟩
noncomputable def ai8 (l:List Int):Option ((List Int×Unit)×Unit):=if l.length≤1000000 then some ((l,()),()) else none
noncomputable abbrev arv:Con SR1:=⟨59,[.sh (.ro 1)],[.sh (.row 1)],fun x =>ai8 x.1⟩
theorem avS:CO Tryz.prog arv:=atY rfl (c:=1) (sz:=1) (fun _ =>rfl) rfl (spec:=ai8) (fun l o h =>by
 unfold ai8 at h
 split at h
 ·rename_i hl; cases h; exact ⟨rfl,hl⟩
 ·cases h) fun A cap xs w hx hn =>ao6 A cap xs w hx hn
theorem auU {B:Nat} {w:World} {c:Nat} {xs:List (SR1.T c)} {v:Value} {F:aad} (s:Sat B w [pcS SR1.kt (.row c xs) v,F]):∃ A cap,v=.slice A xs.length cap∧Sat B w (rwS SR1.kt c xs A cap::[F]):=by
 obtain ⟨hh,Hh,k1,k2,ka,ke,h1,hF⟩:=s
 rw [aax] at h1
 obtain ⟨A,cap,e,hr⟩:=h1
 exact ⟨A,cap,e,hh,Hh,k1,k2,ka,ke,hr,hF⟩
theorem aCf {f:FuncId} (hf:Nat.blt f agW=true) {c sz:Nat} {el:TypeId} (hp:∀ x,awA (SR1.kt.vw c x)=true) (hpl:SR1.kt.pl c=true) (hz:0<SR1.kt.sz c) (hsz:SR1.kt.sz c=sz) {spec:List (SR1.T c)→Option ((List (SR1.T c)×Unit)×(List (SR1.T c)×Unit))} (hspec:∀ l o,spec l=some o→o=((l,()),(l,()))∧l.length≤1000000)
  (h:∀ (A:Option Addr) (cap:Nat) (xs:List (SR1.T c)) (w:World),Sl (afG SR1.kt c) sz w w.heap.size A xs→xs.length≤1000000→Calls Tryz.prog f #[.slice A xs.length cap] w (alQ (afG SR1.kt c) sz el w xs)) :
  CO Tryz.prog ⟨f,[.lent c],[.sh (.row c)],fun x =>spec x.1⟩:=fun x out hx B W hg vs F w hw =>by
 obtain ⟨hb,hB,hs⟩:=hw
 obtain ⟨ho,hl⟩:=hspec x.1 out hx
 subst ho
 show afA Tryz.prog f _ w _
 rw [adG hf]
 rcases vs with _ | ⟨v,_ | ⟨v2,vs⟩⟩
 ·exact aaA hs
 ·replace hs:Sat B w [pcS SR1.kt (.row c x.1) v,F]:=hs
  obtain ⟨A,cap,rfl,s1⟩:=auU hs
  have hsl:=(arJ (ar0 hpl hz s1) List.mem_cons_self).1
  rw [hsz] at hsl
  refine (h A cap x.1 w hsl hl).mono fun e w' ⟨⟨A',c',he,hown⟩,hb'⟩ =>⟨[.slice A' (List.length x.1) c'],he,hb.trans (hb'.mono hB),Nat.le_trans hB hb'.size,?_⟩
  have s2:=ahG hs hb' hB hown
  rw [← hsz] at s2
  exact ahg hp s2
 ·replace hs:Sat B w (pcS SR1.kt (.row c x.1) v::([fun _ =>False]++[F])):=hs
  exact aaA hs.drop
theorem axm:CO Tryz.prog asu:=aCf rfl (c:=0) (sz:=1) (fun _ =>rfl) rfl (by decide) rfl (spec:=anx) (fun l o h =>by
 unfold anx at h
 split at h
 ·rename_i hl; cases h; exact ⟨rfl,hl⟩
 ·cases h) fun A cap xs w hx hn =>avP A cap xs w hx hn
theorem axo:CO Tryz.prog asw:=aCf rfl (c:=2) (sz:=5) (fun _ =>rfl) rfl (by decide) rfl (spec:=alm) (fun l o h =>by
 unfold alm at h
 split at h
 ·rename_i hl; cases h; exact ⟨rfl,hl⟩
 ·cases h) fun A cap xs w hx hn =>avU A cap xs w hx hn
end
section
open Go Go.RowKit
set_option maxRecDepth 100000
variable [Tb]
noncomputable def aLa (x:Int):Option ((Int×Unit)×(Unit)) :=
 if x=0 then
 some (((-1),()),())
 else
 (pTz x).bind fun r1 =>
 some ((r1.1.1,()),())
noncomputable abbrev aFI:Con SR1:=⟨199,[.sh sU_],[.sh sI_],fun x =>aLa x.1⟩
theorem aHj:CO Tryz.prog aFI:=aal aai Tryz.func199 [aHg] ⟨aJx,trivial⟩
noncomputable def aaw (o:OutV):Option ((Bool×Unit)×(OutV×Unit)) :=
 some ((o.ended,()),(o,()))
noncomputable abbrev abE:Con SR1:=⟨142,[.ref 23],[.sh .b],fun x =>aaw x.1⟩
theorem abb:CO Tryz.prog abE:=aal aai Tryz.func142 [] trivial
noncomputable def abx (o:OutV) (code:Int) (value:Int):Option ((Bool×Unit)×(OutV×Unit)) :=
 some ((true,()),((⟨true,code,value⟩:OutV),()))
noncomputable abbrev ada:Con SR1:=⟨152,[.ref 23,.sh sI_,.sh sI_],[.sh .b],fun x =>abx x.1 x.2.1 x.2.2.1⟩
theorem abV:CO Tryz.prog ada:=aal aai Tryz.func152 [] trivial
noncomputable def aHh (o:OutV):Option ((Int×Int×Unit)×(OutV×Unit)) :=
 some ((o.code,o.value,()),(o,()))
noncomputable abbrev aa1:Con SR1:=⟨143,[.ref 23],[.sh sI_,.sh sI_],fun x =>aHh x.1⟩
theorem aaQ:CO Tryz.prog aa1:=aal aai Tryz.func143 [] trivial
noncomputable def adm (m:MemV) (a:Int):Option ((Int×Unit)×(MemV×Unit)) :=
 if a<0 then
 some ((0,()),(m,()))
 else
 if ((m.cells.length:Nat):Int)≤a then
 some ((0,()),(m,()))
 else
 if 0≤a∧a<((m.cells.length:Nat):Int) then
 if 0≤a∧a<((m.cells.length:Nat):Int) then
 if 0≤a∧a<(((m.cells.set a.toNat (agR m.cells a)).length:Nat):Int) then
 some ((agR m.cells a,()),((⟨m.cells.set a.toNat (agR m.cells a),⟨1,a,agR m.cells a,agR (m.cells.set a.toNat (agR m.cells a)) a⟩,wi (m.count+1)⟩:MemV),()))
 else none
 else none
 else none
noncomputable abbrev ac9:Con SR1:=⟨102,[.ref 9,.sh sI_],[.sh sU_],fun x =>adm x.1 x.2.1⟩
noncomputable def aD2:List (Nat×Func):=[(113,Tryz.f113),(114,Tryz.f114)]
theorem ach:CO Tryz.prog ac9:=agL aai Tryz.func102 [] trivial aD2 ⟨Tryz.func113,Tryz.func114,trivial⟩ (fun _ =>[]) [] fun x =>by kernel_rfl
noncomputable def abH (m:MemV) (a:Int) (v:Int):Option ((Unit)×(MemV×Unit)) :=
 if a<0 then
 some ((()),(m,()))
 else
 if ((m.cells.length:Nat):Int)≤a then
 some ((()),(m,()))
 else
 if 0≤a∧a<((m.cells.length:Nat):Int) then
 if 0≤a∧a<((m.cells.length:Nat):Int) then
 if 0≤a∧a<(((m.cells.set a.toNat v).length:Nat):Int) then
 some ((()),((⟨m.cells.set a.toNat v,⟨2,a,agR m.cells a,agR (m.cells.set a.toNat v) a⟩,wi (m.count+1)⟩:MemV),()))
 else none
 else none
 else none
noncomputable abbrev aev:Con SR1:=⟨105,[.ref 9,.sh sI_,.sh sU_],[],fun x =>abH x.1 x.2.1 x.2.2.1⟩
noncomputable def aA9:List (Nat×Func):=[(113,Tryz.f113),(115,Tryz.f115)]
theorem adT:CO Tryz.prog aev:=agL aai Tryz.func105 [] trivial aA9 ⟨Tryz.func113,Tryz.func115,trivial⟩ (fun _ =>[]) [] fun x =>by kernel_rfl
noncomputable def awc (m:MemV) (a:Int) (old:Int) (v:Int):Option ((Bool×Unit)×(MemV×Unit)) :=
 if a<0 then
 some ((false,()),(m,()))
 else
 if ((m.cells.length:Nat):Int)≤a then
 some ((false,()),(m,()))
 else
 if 0≤a∧a<((m.cells.length:Nat):Int) then
 if (agR m.cells a)=old then
 if 0≤a∧a<((m.cells.length:Nat):Int) then
 if 0≤a∧a<(((m.cells.set a.toNat v).length:Nat):Int) then
 some ((decide ((agR m.cells a)=old),()),((⟨m.cells.set a.toNat v,⟨3,a,agR m.cells a,agR (m.cells.set a.toNat v) a⟩,wi (m.count+1)⟩:MemV),()))
 else none
 else none
 else
 if 0≤a∧a<((m.cells.length:Nat):Int) then
 if 0≤a∧a<(((m.cells.set a.toNat (agR m.cells a)).length:Nat):Int) then
 some ((decide ((agR m.cells a)=old),()),((⟨m.cells.set a.toNat (agR m.cells a),⟨3,a,agR m.cells a,agR (m.cells.set a.toNat (agR m.cells a)) a⟩,wi (m.count+1)⟩:MemV),()))
 else none
 else none
 else none
noncomputable abbrev am0:Con SR1:=⟨172,[.ref 9,.sh sI_,.sh sU_,.sh sU_],[.sh .b],fun x =>awc x.1 x.2.1 x.2.2.1 x.2.2.2.1⟩
noncomputable def aHk:List (Nat×Func):=[(113,Tryz.f113),(178,Tryz.f178)]
theorem akz:CO Tryz.prog am0:=agL aai Tryz.func172 [] trivial aHk ⟨Tryz.func113,Tryz.func178,trivial⟩ (fun _ =>[]) [] fun x =>by kernel_rfl
noncomputable def pOr (m:MemV) (a:Int) (v:Int):Option ((Int×Unit)×(MemV×Unit)) :=
 if a<0 then
 some ((0,()),(m,()))
 else
 if ((m.cells.length:Nat):Int)≤a then
 some ((0,()),(m,()))
 else
 if 0≤a∧a<((m.cells.length:Nat):Int) then
 if 0≤a∧a<((m.cells.length:Nat):Int) then
 if 0≤a∧a<(((m.cells.set a.toNat (orU (agR m.cells a) v)).length:Nat):Int) then
 some ((agR m.cells a,()),((⟨m.cells.set a.toNat (orU (agR m.cells a) v),⟨4,a,agR m.cells a,agR (m.cells.set a.toNat (orU (agR m.cells a) v)) a⟩,wi (m.count+1)⟩:MemV),()))
 else none
 else none
 else none
noncomputable abbrev aD0:Con SR1:=⟨146,[.ref 9,.sh sI_,.sh sU_],[.sh sU_],fun x =>pOr x.1 x.2.1 x.2.2.1⟩
noncomputable def aJy:List (Nat×Func):=[(113,Tryz.f113),(153,Tryz.f153)]
theorem aBb:CO Tryz.prog aD0:=agL aai Tryz.func146 [] trivial aJy ⟨Tryz.func113,Tryz.func153,trivial⟩ (fun _ =>[]) [] fun x =>by kernel_rfl
noncomputable def aFJ (m:MemV) (a:Int) (v:Int):Option ((Int×Unit)×(MemV×Unit)) :=
 if a<0 then
 some ((0,()),(m,()))
 else
 if ((m.cells.length:Nat):Int)≤a then
 some ((0,()),(m,()))
 else
 if 0≤a∧a<((m.cells.length:Nat):Int) then
 if 0≤a∧a<((m.cells.length:Nat):Int) then
 if 0≤a∧a<(((m.cells.set a.toNat (aoG (agR m.cells a) v)).length:Nat):Int) then
 some ((agR m.cells a,()),((⟨m.cells.set a.toNat (aoG (agR m.cells a) v),⟨5,a,agR m.cells a,agR (m.cells.set a.toNat (aoG (agR m.cells a) v)) a⟩,wi (m.count+1)⟩:MemV),()))
 else none
 else none
 else none
noncomputable abbrev ays:Con SR1:=⟨151,[.ref 9,.sh sI_,.sh sU_],[.sh sU_],fun x =>aFJ x.1 x.2.1 x.2.2.1⟩
noncomputable def aHl:List (Nat×Func):=[(113,Tryz.f113),(155,Tryz.f155)]
theorem awQ:CO Tryz.prog ays:=agL aai Tryz.func151 [] trivial aHl ⟨Tryz.func113,Tryz.func155,trivial⟩ (fun _ =>[]) [] fun x =>by kernel_rfl
noncomputable def aIE (m:MemV) (a:Int) (v:Int):Option ((Int×Unit)×(MemV×Unit)) :=
 if a<0 then
 some ((0,()),(m,()))
 else
 if ((m.cells.length:Nat):Int)≤a then
 some ((0,()),(m,()))
 else
 if 0≤a∧a<((m.cells.length:Nat):Int) then
 if 0≤a∧a<((m.cells.length:Nat):Int) then
 if 0≤a∧a<(((m.cells.set a.toNat (wu ((agR m.cells a)+v))).length:Nat):Int) then
 some ((agR m.cells a,()),((⟨m.cells.set a.toNat (wu ((agR m.cells a)+v)),⟨6,a,agR m.cells a,agR (m.cells.set a.toNat (wu ((agR m.cells a)+v))) a⟩,wi (m.count+1)⟩:MemV),()))
 else none
 else none
 else none
noncomputable abbrev ayt:Con SR1:=⟨185,[.ref 9,.sh sI_,.sh sU_],[.sh sU_],fun x =>aIE x.1 x.2.1 x.2.2.1⟩
noncomputable def aHm:List (Nat×Func):=[(113,Tryz.f113),(188,Tryz.f188)]
theorem awR:CO Tryz.prog ayt:=agL aai Tryz.func185 [] trivial aHm ⟨Tryz.func113,Tryz.func188,trivial⟩ (fun _ =>[]) [] fun x =>by kernel_rfl
noncomputable def aux (k:ClkV):Option ((Int×Unit)×(ClkV×Unit)) :=
 some ((k.now,()),(k,()))
noncomputable abbrev aoW:Con SR1:=⟨108,[.ref 25],[.sh sI_],fun x =>aux x.1⟩
theorem alZ:CO Tryz.prog aoW:=aal aai Tryz.func108 [] trivial
noncomputable def aD6 (k:ClkV) (n:Int):Option ((Int×Unit)×(ClkV×Unit)) :=
 if n<1 then
 some ((0,()),(k,()))
 else
 if n≠0 then
 if (Int.tmod k.draw n)<0 then
 some ((wi ((Int.tmod k.draw n)+n),()),(k,()))
 else
 some (((Int.tmod k.draw n),()),(k,()))
 else none
noncomputable abbrev aBf:Con SR1:=⟨234,[.ref 25,.sh sI_],[.sh sI_],fun x =>aD6 x.1 x.2.1⟩
theorem aD4:CO Tryz.prog aBf:=aal aai Tryz.func234 [] trivial
noncomputable def aC1 (n:Int):Option ((Int×Unit)×(Unit)) :=
 if n<0 then
 some ((0,()),())
 else
 if 63<n then
 some ((0,()),())
 else
 if 0≤wu (n) then
 some ((wu (1*2 ^ min (wu (n):Int).toNat IntKind.u64.bits),()),())
 else none
noncomputable abbrev avf:Con SR1:=⟨148,[.sh sI_],[.sh sU_],fun x =>aC1 x.1⟩
theorem atg:CO Tryz.prog avf:=aal aai Tryz.func148 [] trivial
noncomputable def avc (a:Int) (n:Int):Option ((Int×Unit)×(Unit)) :=
 if n<1 then
 some ((0,()),())
 else
 if n≠0 then
 if (Int.tmod a n)<0 then
 some ((wi ((Int.tmod a n)+n),()),())
 else
 some (((Int.tmod a n),()),())
 else none
noncomputable abbrev aiT:Con SR1:=⟨24,[.sh sI_,.sh sI_],[.sh sI_],fun x =>avc x.1 x.2.1⟩
theorem agU:CO Tryz.prog aiT:=aal aai Tryz.func24 [] trivial
noncomputable def awJ (b:Int) (t:Int):Option ((Int×Unit)×(Unit)) :=
 some ((wi (wu (b-t)),()),())
noncomputable abbrev aoc:Con SR1:=⟨220,[.sh sU_,.sh sU_],[.sh sI_],fun x =>awJ x.1 x.2.1⟩
theorem amY:CO Tryz.prog aoc:=aal aai Tryz.func220 [] trivial
noncomputable def awN (q:QV) (i:Int):Option ((Int×Unit)×(Unit)) :=
 if q.cap<1 then
 some (((-1),()),())
 else
 if (wu (q.cap))≠0 then
 some ((wi (q.ring+(wi ((Int.tmod i (wu (q.cap)))))),()),())
 else none
noncomputable abbrev ate:Con SR1:=⟨221,[.val 14,.sh sU_],[.sh sI_],fun x =>awN x.1 x.2.1⟩
theorem atd:CO Tryz.prog ate:=aal aai Tryz.func221 [] trivial
noncomputable def pAt (i:Int) (n:Int) (a:Int) (w:Int):Option ((Int×Unit)×(Unit)) :=
 if i<0 then
 some (((-1),()),())
 else
 if n≤i then
 some (((-1),()),())
 else
 some ((wi (a+(wi (i*w))),()),())
noncomputable abbrev awO:Con SR1:=⟨117,[.sh sI_,.sh sI_,.sh sI_,.sh sI_],[.sh sI_],fun x =>pAt x.1 x.2.1 x.2.2.1 x.2.2.2.1⟩
theorem asb:CO Tryz.prog awO:=aal aai Tryz.func117 [] trivial
noncomputable def avb (l:LayV) (t:Int) (f:Int):Option ((Int×Unit)×(Unit)) :=
 (pAt t l.tasks (wi (l.table+f)) 5).bind fun r1 =>
 some ((r1.1.1,()),())
noncomputable abbrev aob:Con SR1:=⟨116,[.val 24,.sh sI_,.sh sI_],[.sh sI_],fun x =>avb x.1 x.2.1 x.2.2.1⟩
theorem amW:CO Tryz.prog aob:=aal aai Tryz.func116 [awO] ⟨asb,trivial⟩
noncomputable def aHi (l:LayV):Option ((Int×Unit)×(Unit)) :=
 some ((0,()),())
noncomputable abbrev aBc:Con SR1:=⟨186,[.val 24],[.sh sI_],fun x =>aHi x.1⟩
theorem aD1:CO Tryz.prog aBc:=aal aai Tryz.func186 [] trivial
noncomputable def ag9 (l:LayV) (t:Int):Option ((Int×Unit)×(Unit)) :=
 (avb l t 0).bind fun r1 =>
 some ((r1.1.1,()),())
noncomputable abbrev ahj:Con SR1:=⟨109,[.val 24,.sh sI_],[.sh sI_],fun x =>ag9 x.1 x.2.1⟩
theorem agA:CO Tryz.prog ahj:=aal aai Tryz.func109 [aob] ⟨amW,trivial⟩
noncomputable def aha (l:LayV) (t:Int):Option ((Int×Unit)×(Unit)) :=
 (avb l t 1).bind fun r1 =>
 some ((r1.1.1,()),())
noncomputable abbrev ahk:Con SR1:=⟨106,[.val 24,.sh sI_],[.sh sI_],fun x =>aha x.1 x.2.1⟩
theorem agB:CO Tryz.prog ahk:=aal aai Tryz.func106 [aob] ⟨amW,trivial⟩
noncomputable def akv (l:LayV) (t:Int):Option ((Int×Unit)×(Unit)) :=
 (avb l t 4).bind fun r1 =>
 some ((r1.1.1,()),())
noncomputable abbrev ak8:Con SR1:=⟨107,[.val 24,.sh sI_],[.sh sI_],fun x =>akv x.1 x.2.1⟩
theorem akt:CO Tryz.prog ak8:=aal aai Tryz.func107 [aob] ⟨amW,trivial⟩
noncomputable def amV (l:LayV) (t:Int):Option ((Int×Unit)×(Unit)) :=
 (avb l t 3).bind fun r1 =>
 some ((r1.1.1,()),())
noncomputable abbrev apU:Con SR1:=⟨166,[.val 24,.sh sI_],[.sh sI_],fun x =>amV x.1 x.2.1⟩
theorem aqH:CO Tryz.prog apU:=aal aai Tryz.func166 [aob] ⟨amW,trivial⟩
noncomputable def atc (l:LayV) (t:Int):Option ((Int×Unit)×(Unit)) :=
 (avb l t 2).bind fun r1 =>
 some ((r1.1.1,()),())
noncomputable abbrev awL:Con SR1:=⟨173,[.val 24,.sh sI_],[.sh sI_],fun x =>atc x.1 x.2.1⟩
theorem aym:CO Tryz.prog awL:=aal aai Tryz.func173 [aob] ⟨amW,trivial⟩
noncomputable def aBe (l:LayV):Option ((Int×Unit)×(Unit)) :=
 some ((1,()),())
noncomputable abbrev awK:Con SR1:=⟨182,[.val 24],[.sh sI_],fun x =>aBe x.1⟩
theorem ayl:CO Tryz.prog awK:=aal aai Tryz.func182 [] trivial
noncomputable def ahQ (l:LayV):Option ((Int×Unit)×(Unit)) :=
 some ((2,()),())
noncomputable abbrev ala:Con SR1:=⟨103,[.val 24],[.sh sI_],fun x =>ahQ x.1⟩
theorem aky:CO Tryz.prog ala:=aal aai Tryz.func103 [] trivial
noncomputable def apx (l:LayV) (i:Int):Option ((Int×Unit)×(Unit)) :=
 (pAt i l.heap 4 1).bind fun r1 =>
 some ((r1.1.1,()),())
noncomputable abbrev ata:Con SR1:=⟨193,[.val 24,.sh sI_],[.sh sI_],fun x =>apx x.1 x.2.1⟩
theorem as9:CO Tryz.prog ata:=aal aai Tryz.func193 [awO] ⟨asb,trivial⟩
noncomputable def asa (l:LayV) (w:Int):Option ((Int×Unit)×(Unit)) :=
 (pAt w l.workers l.epochs 1).bind fun r1 =>
 some ((r1.1.1,()),())
noncomputable abbrev apW:Con SR1:=⟨145,[.val 24,.sh sI_],[.sh sI_],fun x =>asa x.1 x.2.1⟩
theorem aqJ:CO Tryz.prog apW:=aal aai Tryz.func145 [awO] ⟨asb,trivial⟩
noncomputable def ahO (l:LayV) (l0:Int):Option ((Int×Unit)×(Unit)) :=
 (pAt l0 l.classes l.sleepers 1).bind fun r1 =>
 some ((r1.1.1,()),())
noncomputable abbrev alY:Con SR1:=⟨154,[.val 24,.sh sI_],[.sh sI_],fun x =>ahO x.1 x.2.1⟩
theorem aoV:CO Tryz.prog alY:=aal aai Tryz.func154 [awO] ⟨asb,trivial⟩
noncomputable def ais (l:LayV) (w:Int):Option ((Int×Unit)×(Unit)) :=
 (pAt w l.workers l.bitmaps 1).bind fun r1 =>
 some ((r1.1.1,()),())
noncomputable abbrev ahR:Con SR1:=⟨136,[.val 24,.sh sI_],[.sh sI_],fun x =>ais x.1 x.2.1⟩
theorem ahs:CO Tryz.prog ahR:=aal aai Tryz.func136 [awO] ⟨asb,trivial⟩
noncomputable def ahP (l:LayV) (w:Int) (v:Int):Option ((QV×Unit)×(Unit)) :=
 (pAt w l.workers l.queues (wi (l.levels*(wi (2+l.deque))))).bind fun r1 =>
 (pAt v l.levels r1.1.1 (wi (2+l.deque))).bind fun r2 =>
 if r1.1.1<0 then
 some (((⟨(-1),(-1),(-1),0⟩:QV),()),())
 else
 if r2.1.1<0 then
 some (((⟨(-1),(-1),(-1),0⟩:QV),()),())
 else
 some (((⟨r2.1.1,wi (r2.1.1+1),wi (r2.1.1+2),l.deque⟩:QV),()),())
noncomputable abbrev ak9:Con SR1:=⟨134,[.val 24,.sh sI_,.sh sI_],[.val 14],fun x =>ahP x.1 x.2.1 x.2.2.1⟩
theorem akw:CO Tryz.prog ak9:=aal aai Tryz.func134 [awO] ⟨asb,trivial⟩
noncomputable def ath (l:LayV):Option ((Int×Unit)×(Unit)) :=
 some ((3,()),())
noncomputable abbrev asd:Con SR1:=⟨92,[.val 24],[.sh sI_],fun x =>ath x.1⟩
theorem awP:CO Tryz.prog asd:=aal aai Tryz.func92 [] trivial
noncomputable def ayr (l:LayV):Option ((Int×Unit)×(Unit)) :=
 some ((wi (l.table+(wi (5*l.tasks))),()),())
noncomputable abbrev ayq:Con SR1:=⟨65,[.val 24],[.sh sI_],fun x =>ayr x.1⟩
theorem aBh:CO Tryz.prog ayq:=aal aai Tryz.func65 [] trivial
noncomputable def aeV (e:EnvP) (v:Ev):Option ((Unit)×(EnvP×Unit)) :=
 if (((e.evs.length+([v]:List Ev).length:Nat)):Int)<1000000000000 then
 some ((()),(({ e with evs:=e.evs++([v]) }:EnvP),()))
 else none
noncomputable abbrev agb:Con SR1:=⟨111,[.ref 27,.val 2],[],fun x =>aeV x.1 x.2.1⟩
theorem afa:CO Tryz.prog agb:=aal aai Tryz.func111 [] trivial
noncomputable def aDZ (d:Int) (a:Int) (t:Int):Option ((Int×Bool×Unit)×(Unit)) :=
 if d<0 then
 some ((0,false,()),())
 else
 if 16777215<d then
 some ((0,false,()),())
 else
 if a<0 then
 some ((0,false,()),())
 else
 if 16777215<a then
 some ((0,false,()),())
 else
 if t<0 then
 some ((0,false,()),())
 else
 if 65535<t then
 some ((0,false,()),())
 else
 some ((orU (orU (wu ((wu (d))*2 ^ min (40:Int).toNat IntKind.u64.bits)) (wu ((wu (a))*2 ^ min (16:Int).toNat IntKind.u64.bits))) (wu (t)),true,()),())
noncomputable abbrev aBa:Con SR1:=⟨191,[.sh sI_,.sh sI_,.sh sI_],[.sh sU_,.sh .b],fun x =>aDZ x.1 x.2.1 x.2.2.1⟩
theorem aDX:CO Tryz.prog aBa:=aal aai Tryz.func191 [] trivial
noncomputable def ave (l:Int) (n:Int) (c:Int):Option ((Int×Unit)×(Unit)) :=
 if n<1 then
 some ((0,()),())
 else
 if 64<n then
 some ((0,()),())
 else
 if c<1 then
 some ((0,()),())
 else
 if 8<c then
 some ((0,()),())
 else
 if l<0 then
 some ((0,()),())
 else
 if n≤l then
 some ((0,()),())
 else
 if n≠0 then
 some ((wi (Int.tdiv (wi (l*c)) n),()),())
 else none
noncomputable abbrev ayp:Con SR1:=⟨200,[.sh sI_,.sh sI_,.sh sI_],[.sh sI_],fun x =>ave x.1 x.2.1 x.2.2.1⟩
theorem aBg:CO Tryz.prog ayp:=aal aai Tryz.func200 [] trivial
noncomputable def awI (k:Int):Option ((Int×Int×Int×Unit)×(Unit)) :=
 some ((wi (Int.fdiv k (2 ^ min (40:Int).toNat IntKind.u64.bits)),wi (aoG (Int.fdiv k (2 ^ min (16:Int).toNat IntKind.u64.bits)) 16777215),wi (aoG k 65535),()),())
noncomputable abbrev ava:Con SR1:=⟨257,[.sh sU_],[.sh sI_,.sh sI_,.sh sI_],fun x =>awI x.1⟩
theorem azz:CO Tryz.prog ava:=aal aai Tryz.func257 [] trivial
noncomputable def ah1 (x:Int):Option ((Int×Unit)×(Unit)) :=
 if 4294967296≤x then
 if 65536≤(Int.fdiv x (2 ^ min (32:Int).toNat IntKind.u64.bits)) then
 if 256≤(Int.fdiv (Int.fdiv x (2 ^ min (32:Int).toNat IntKind.u64.bits)) (2 ^ min (16:Int).toNat IntKind.u64.bits)) then
 if 0≤IntKind.u8.wrap (Int.fdiv (Int.fdiv (Int.fdiv x (2 ^ min (32:Int).toNat IntKind.u64.bits)) (2 ^ min (16:Int).toNat IntKind.u64.bits)) (2 ^ min (8:Int).toNat IntKind.u64.bits))∧IntKind.u8.wrap (Int.fdiv (Int.fdiv (Int.fdiv x (2 ^ min (32:Int).toNat IntKind.u64.bits)) (2 ^ min (16:Int).toNat IntKind.u64.bits)) (2 ^ min (8:Int).toNat IntKind.u64.bits))<((aki.size:Nat):Int) then
 some ((wi ((wi (56+(wi ((((aki[(IntKind.u8.wrap (Int.fdiv (Int.fdiv (Int.fdiv x (2 ^ min (32:Int).toNat IntKind.u64.bits)) (2 ^ min (16:Int).toNat IntKind.u64.bits)) (2 ^ min (8:Int).toNat IntKind.u64.bits))).toNat]?).map fun b =>((b.toNat:Nat):Int)).getD 0)))))-1),()),())
 else none
 else
 if 0≤IntKind.u8.wrap (Int.fdiv (Int.fdiv x (2 ^ min (32:Int).toNat IntKind.u64.bits)) (2 ^ min (16:Int).toNat IntKind.u64.bits))∧IntKind.u8.wrap (Int.fdiv (Int.fdiv x (2 ^ min (32:Int).toNat IntKind.u64.bits)) (2 ^ min (16:Int).toNat IntKind.u64.bits))<((aki.size:Nat):Int) then
 some ((wi ((wi (48+(wi ((((aki[(IntKind.u8.wrap (Int.fdiv (Int.fdiv x (2 ^ min (32:Int).toNat IntKind.u64.bits)) (2 ^ min (16:Int).toNat IntKind.u64.bits))).toNat]?).map fun b =>((b.toNat:Nat):Int)).getD 0)))))-1),()),())
 else none
 else
 if 256≤(Int.fdiv x (2 ^ min (32:Int).toNat IntKind.u64.bits)) then
 if 0≤IntKind.u8.wrap (Int.fdiv (Int.fdiv x (2 ^ min (32:Int).toNat IntKind.u64.bits)) (2 ^ min (8:Int).toNat IntKind.u64.bits))∧IntKind.u8.wrap (Int.fdiv (Int.fdiv x (2 ^ min (32:Int).toNat IntKind.u64.bits)) (2 ^ min (8:Int).toNat IntKind.u64.bits))<((aki.size:Nat):Int) then
 some ((wi ((wi (40+(wi ((((aki[(IntKind.u8.wrap (Int.fdiv (Int.fdiv x (2 ^ min (32:Int).toNat IntKind.u64.bits)) (2 ^ min (8:Int).toNat IntKind.u64.bits))).toNat]?).map fun b =>((b.toNat:Nat):Int)).getD 0)))))-1),()),())
 else none
 else
 if 0≤IntKind.u8.wrap (Int.fdiv x (2 ^ min (32:Int).toNat IntKind.u64.bits))∧IntKind.u8.wrap (Int.fdiv x (2 ^ min (32:Int).toNat IntKind.u64.bits))<((aki.size:Nat):Int) then
 some ((wi ((wi (32+(wi ((((aki[(IntKind.u8.wrap (Int.fdiv x (2 ^ min (32:Int).toNat IntKind.u64.bits))).toNat]?).map fun b =>((b.toNat:Nat):Int)).getD 0)))))-1),()),())
 else none
 else
 if 65536≤x then
 if 256≤(Int.fdiv x (2 ^ min (16:Int).toNat IntKind.u64.bits)) then
 if 0≤IntKind.u8.wrap (Int.fdiv (Int.fdiv x (2 ^ min (16:Int).toNat IntKind.u64.bits)) (2 ^ min (8:Int).toNat IntKind.u64.bits))∧IntKind.u8.wrap (Int.fdiv (Int.fdiv x (2 ^ min (16:Int).toNat IntKind.u64.bits)) (2 ^ min (8:Int).toNat IntKind.u64.bits))<((aki.size:Nat):Int) then
 some ((wi ((wi (24+(wi ((((aki[(IntKind.u8.wrap (Int.fdiv (Int.fdiv x (2 ^ min (16:Int).toNat IntKind.u64.bits)) (2 ^ min (8:Int).toNat IntKind.u64.bits))).toNat]?).map fun b =>((b.toNat:Nat):Int)).getD 0)))))-1),()),())
 else none
 else
 if 0≤IntKind.u8.wrap (Int.fdiv x (2 ^ min (16:Int).toNat IntKind.u64.bits))∧IntKind.u8.wrap (Int.fdiv x (2 ^ min (16:Int).toNat IntKind.u64.bits))<((aki.size:Nat):Int) then
 some ((wi ((wi (16+(wi ((((aki[(IntKind.u8.wrap (Int.fdiv x (2 ^ min (16:Int).toNat IntKind.u64.bits))).toNat]?).map fun b =>((b.toNat:Nat):Int)).getD 0)))))-1),()),())
 else none
 else
 if 256≤x then
 if 0≤IntKind.u8.wrap (Int.fdiv x (2 ^ min (8:Int).toNat IntKind.u64.bits))∧IntKind.u8.wrap (Int.fdiv x (2 ^ min (8:Int).toNat IntKind.u64.bits))<((aki.size:Nat):Int) then
 some ((wi ((wi (8+(wi ((((aki[(IntKind.u8.wrap (Int.fdiv x (2 ^ min (8:Int).toNat IntKind.u64.bits))).toNat]?).map fun b =>((b.toNat:Nat):Int)).getD 0)))))-1),()),())
 else none
 else
 if 0≤IntKind.u8.wrap (x)∧IntKind.u8.wrap (x)<((aki.size:Nat):Int) then
 some ((wi ((wi (0+(wi ((((aki[(IntKind.u8.wrap (x)).toNat]?).map fun b =>((b.toNat:Nat):Int)).getD 0)))))-1),()),())
 else none
noncomputable abbrev awM:Con SR1:=⟨227,[.sh sU_],[.sh sI_],fun x =>ah1 x.1⟩
noncomputable def aD3:List (Nat×Func):=[(229,Tryz.f229)]
theorem ayn:CO Tryz.prog awM:=agL aai Tryz.func227 [] trivial aD3 ⟨Tryz.func229,trivial⟩ (fun _ =>[]) [] fun x =>by kernel_rfl
noncomputable def ae2 (y0:ProbeV) (y1:Int):Option ((Bool×Unit)×(ProbeV×Unit)) :=
 ((
 if y0.next<y1 then
 if y1≠0 then
 some (decide ((Int.tmod (wi (y0.start+y0.next)) y1)=y0.worker),())
 else none
 else
 some (false,())
 ):Option (Bool×Unit)).bind fun z1 =>
 if z1.1=true then
 some ((decide (y1≤(wi (y0.next+1))),()),(({ y0 with next:=wi (y0.next+1) }:ProbeV),()))
 else
 some ((decide (y1≤y0.next),()),(y0,()))
noncomputable abbrev ajS:Con SR1:=⟨235,[.ref 46,.sh sI_],[.sh .b],fun x =>ae2 x.1 x.2.1⟩
theorem an7:CO Tryz.prog ajS:=aal aai Tryz.func235 [] trivial [(2,.cut [.rg 28 .b] [0])]
noncomputable def abB (y0:ProbeV) (y1:EnvP):Option ((Bool×Unit)×(ProbeV×EnvP×Unit)) :=
 (aaw y0.o).bind fun r1 =>
 if r1.1.1=true then
 some ((true,()),(({ y0 with o:=r1.2.1 }:ProbeV),y1,()))
 else
 ((
 if (!y0.begun)=true then
 (aD6 y1.k (if 16<y1.c.workers then 16 else y1.c.workers)).bind fun r2 =>
 some (({ y0 with o:=r1.2.1,begun:=true,start:=r2.1.1 }:ProbeV),({ y1 with k:=r2.2.1 }:EnvP),())
 else
 some (({ y0 with o:=r1.2.1 }:ProbeV),y1,())
 ):Option (ProbeV×EnvP×Unit)).bind fun z3 =>
 (ae2 z3.1 (if 16<y1.c.workers then 16 else y1.c.workers)).bind fun r4 =>
 if r4.1.1=true then
 (abx r4.2.1.o 2 0).bind fun r5 =>
 some ((r5.1.1,()),(({ r4.2.1 with o:=r5.2.1 }:ProbeV),z3.2.1,()))
 else
 if (if 16<y1.c.workers then 16 else y1.c.workers)≠0 then
 ((
 (ais z3.2.1.l (Int.tmod (wi (r4.2.1.start+r4.2.1.next)) (if 16<y1.c.workers then 16 else y1.c.workers))).bind fun r6 =>
 (adm z3.2.1.m r6.1.1).bind fun r7 =>
 if (Int.tmod (wi (r4.2.1.start+r4.2.1.next)) (if 16<y1.c.workers then 16 else y1.c.workers))=((15:Nat):Int) then
 some (({ r4.2.1 with bm:={ r4.2.1.bm with b15:=r7.1.1 } }:ProbeV),({ z3.2.1 with m:=r7.2.1 }:EnvP),())
 else
 if (Int.tmod (wi (r4.2.1.start+r4.2.1.next)) (if 16<y1.c.workers then 16 else y1.c.workers))=((14:Nat):Int) then
 some (({ r4.2.1 with bm:={ r4.2.1.bm with b14:=r7.1.1 } }:ProbeV),({ z3.2.1 with m:=r7.2.1 }:EnvP),())
 else
 if (Int.tmod (wi (r4.2.1.start+r4.2.1.next)) (if 16<y1.c.workers then 16 else y1.c.workers))=((13:Nat):Int) then
 some (({ r4.2.1 with bm:={ r4.2.1.bm with b13:=r7.1.1 } }:ProbeV),({ z3.2.1 with m:=r7.2.1 }:EnvP),())
 else
 if (Int.tmod (wi (r4.2.1.start+r4.2.1.next)) (if 16<y1.c.workers then 16 else y1.c.workers))=((12:Nat):Int) then
 some (({ r4.2.1 with bm:={ r4.2.1.bm with b12:=r7.1.1 } }:ProbeV),({ z3.2.1 with m:=r7.2.1 }:EnvP),())
 else
 if (Int.tmod (wi (r4.2.1.start+r4.2.1.next)) (if 16<y1.c.workers then 16 else y1.c.workers))=((11:Nat):Int) then
 some (({ r4.2.1 with bm:={ r4.2.1.bm with b11:=r7.1.1 } }:ProbeV),({ z3.2.1 with m:=r7.2.1 }:EnvP),())
 else
 if (Int.tmod (wi (r4.2.1.start+r4.2.1.next)) (if 16<y1.c.workers then 16 else y1.c.workers))=((10:Nat):Int) then
 some (({ r4.2.1 with bm:={ r4.2.1.bm with b10:=r7.1.1 } }:ProbeV),({ z3.2.1 with m:=r7.2.1 }:EnvP),())
 else
 if (Int.tmod (wi (r4.2.1.start+r4.2.1.next)) (if 16<y1.c.workers then 16 else y1.c.workers))=((9:Nat):Int) then
 some (({ r4.2.1 with bm:={ r4.2.1.bm with b9:=r7.1.1 } }:ProbeV),({ z3.2.1 with m:=r7.2.1 }:EnvP),())
 else
 if (Int.tmod (wi (r4.2.1.start+r4.2.1.next)) (if 16<y1.c.workers then 16 else y1.c.workers))=((8:Nat):Int) then
 some (({ r4.2.1 with bm:={ r4.2.1.bm with b8:=r7.1.1 } }:ProbeV),({ z3.2.1 with m:=r7.2.1 }:EnvP),())
 else
 if (Int.tmod (wi (r4.2.1.start+r4.2.1.next)) (if 16<y1.c.workers then 16 else y1.c.workers))=((7:Nat):Int) then
 some (({ r4.2.1 with bm:={ r4.2.1.bm with b7:=r7.1.1 } }:ProbeV),({ z3.2.1 with m:=r7.2.1 }:EnvP),())
 else
 if (Int.tmod (wi (r4.2.1.start+r4.2.1.next)) (if 16<y1.c.workers then 16 else y1.c.workers))=((6:Nat):Int) then
 some (({ r4.2.1 with bm:={ r4.2.1.bm with b6:=r7.1.1 } }:ProbeV),({ z3.2.1 with m:=r7.2.1 }:EnvP),())
 else
 if (Int.tmod (wi (r4.2.1.start+r4.2.1.next)) (if 16<y1.c.workers then 16 else y1.c.workers))=((5:Nat):Int) then
 some (({ r4.2.1 with bm:={ r4.2.1.bm with b5:=r7.1.1 } }:ProbeV),({ z3.2.1 with m:=r7.2.1 }:EnvP),())
 else
 if (Int.tmod (wi (r4.2.1.start+r4.2.1.next)) (if 16<y1.c.workers then 16 else y1.c.workers))=((4:Nat):Int) then
 some (({ r4.2.1 with bm:={ r4.2.1.bm with b4:=r7.1.1 } }:ProbeV),({ z3.2.1 with m:=r7.2.1 }:EnvP),())
 else
 if (Int.tmod (wi (r4.2.1.start+r4.2.1.next)) (if 16<y1.c.workers then 16 else y1.c.workers))=((3:Nat):Int) then
 some (({ r4.2.1 with bm:={ r4.2.1.bm with b3:=r7.1.1 } }:ProbeV),({ z3.2.1 with m:=r7.2.1 }:EnvP),())
 else
 if (Int.tmod (wi (r4.2.1.start+r4.2.1.next)) (if 16<y1.c.workers then 16 else y1.c.workers))=((2:Nat):Int) then
 some (({ r4.2.1 with bm:={ r4.2.1.bm with b2:=r7.1.1 } }:ProbeV),({ z3.2.1 with m:=r7.2.1 }:EnvP),())
 else
 if (Int.tmod (wi (r4.2.1.start+r4.2.1.next)) (if 16<y1.c.workers then 16 else y1.c.workers))=((1:Nat):Int) then
 some (({ r4.2.1 with bm:={ r4.2.1.bm with b1:=r7.1.1 } }:ProbeV),({ z3.2.1 with m:=r7.2.1 }:EnvP),())
 else
 if (Int.tmod (wi (r4.2.1.start+r4.2.1.next)) (if 16<y1.c.workers then 16 else y1.c.workers))=((0:Nat):Int) then
 some (({ r4.2.1 with bm:={ r4.2.1.bm with b0:=r7.1.1 } }:ProbeV),({ z3.2.1 with m:=r7.2.1 }:EnvP),())
 else
 none
 ):Option (ProbeV×EnvP×Unit)).bind fun z8 =>
 (ae2 ({ z8.1 with next:=wi (z8.1.next+1) }:ProbeV) (if 16<y1.c.workers then 16 else y1.c.workers)).bind fun r9 =>
 if (!r9.1.1)=true then
 some ((false,()),(r9.2.1,z8.2.1,()))
 else
 if 0≤(if 16<y1.c.workers then 16 else y1.c.workers)∧(if 16<y1.c.workers then 16 else y1.c.workers)≤((16:Nat):Int) then
 (lpF (σ:=Int×Int×Int×ProbeV×Unit) (β:=Int×Int×Int×ProbeV×Unit) (fun self12 x10 =>
 if x10.2.2.1<((((if 16<y1.c.workers then 16 else y1.c.workers)).toNat:Nat):Int) then
 (avc r9.2.1.start ((((if 16<y1.c.workers then 16 else y1.c.workers)).toNat:Nat):Int)).bind fun r13 =>
 if ((((if 16<y1.c.workers then 16 else y1.c.workers)).toNat:Nat):Int)≠0 then
 ((
 if (Int.tmod (wi (r13.1.1+x10.2.2.1)) ((((if 16<y1.c.workers then 16 else y1.c.workers)).toNat:Nat):Int))<(if 16<y1.c.workers then 16 else y1.c.workers) then
 if (Int.tmod (wi (r13.1.1+x10.2.2.1)) ((((if 16<y1.c.workers then 16 else y1.c.workers)).toNat:Nat):Int))=((15:Nat):Int) then
 (ah1 x10.2.2.2.1.bm.b15).bind fun r14 =>
 some (r14.1.1,x10.2.2.2.1,())
 else
 if (Int.tmod (wi (r13.1.1+x10.2.2.1)) ((((if 16<y1.c.workers then 16 else y1.c.workers)).toNat:Nat):Int))=((14:Nat):Int) then
 (ah1 x10.2.2.2.1.bm.b14).bind fun r15 =>
 some (r15.1.1,x10.2.2.2.1,())
 else
 if (Int.tmod (wi (r13.1.1+x10.2.2.1)) ((((if 16<y1.c.workers then 16 else y1.c.workers)).toNat:Nat):Int))=((13:Nat):Int) then
 (ah1 x10.2.2.2.1.bm.b13).bind fun r16 =>
 some (r16.1.1,x10.2.2.2.1,())
 else
 if (Int.tmod (wi (r13.1.1+x10.2.2.1)) ((((if 16<y1.c.workers then 16 else y1.c.workers)).toNat:Nat):Int))=((12:Nat):Int) then
 (ah1 x10.2.2.2.1.bm.b12).bind fun r17 =>
 some (r17.1.1,x10.2.2.2.1,())
 else
 if (Int.tmod (wi (r13.1.1+x10.2.2.1)) ((((if 16<y1.c.workers then 16 else y1.c.workers)).toNat:Nat):Int))=((11:Nat):Int) then
 (ah1 x10.2.2.2.1.bm.b11).bind fun r18 =>
 some (r18.1.1,x10.2.2.2.1,())
 else
 if (Int.tmod (wi (r13.1.1+x10.2.2.1)) ((((if 16<y1.c.workers then 16 else y1.c.workers)).toNat:Nat):Int))=((10:Nat):Int) then
 (ah1 x10.2.2.2.1.bm.b10).bind fun r19 =>
 some (r19.1.1,x10.2.2.2.1,())
 else
 if (Int.tmod (wi (r13.1.1+x10.2.2.1)) ((((if 16<y1.c.workers then 16 else y1.c.workers)).toNat:Nat):Int))=((9:Nat):Int) then
 (ah1 x10.2.2.2.1.bm.b9).bind fun r20 =>
 some (r20.1.1,x10.2.2.2.1,())
 else
 if (Int.tmod (wi (r13.1.1+x10.2.2.1)) ((((if 16<y1.c.workers then 16 else y1.c.workers)).toNat:Nat):Int))=((8:Nat):Int) then
 (ah1 x10.2.2.2.1.bm.b8).bind fun r21 =>
 some (r21.1.1,x10.2.2.2.1,())
 else
 if (Int.tmod (wi (r13.1.1+x10.2.2.1)) ((((if 16<y1.c.workers then 16 else y1.c.workers)).toNat:Nat):Int))=((7:Nat):Int) then
 (ah1 x10.2.2.2.1.bm.b7).bind fun r22 =>
 some (r22.1.1,x10.2.2.2.1,())
 else
 if (Int.tmod (wi (r13.1.1+x10.2.2.1)) ((((if 16<y1.c.workers then 16 else y1.c.workers)).toNat:Nat):Int))=((6:Nat):Int) then
 (ah1 x10.2.2.2.1.bm.b6).bind fun r23 =>
 some (r23.1.1,x10.2.2.2.1,())
 else
 if (Int.tmod (wi (r13.1.1+x10.2.2.1)) ((((if 16<y1.c.workers then 16 else y1.c.workers)).toNat:Nat):Int))=((5:Nat):Int) then
 (ah1 x10.2.2.2.1.bm.b5).bind fun r24 =>
 some (r24.1.1,x10.2.2.2.1,())
 else
 if (Int.tmod (wi (r13.1.1+x10.2.2.1)) ((((if 16<y1.c.workers then 16 else y1.c.workers)).toNat:Nat):Int))=((4:Nat):Int) then
 (ah1 x10.2.2.2.1.bm.b4).bind fun r25 =>
 some (r25.1.1,x10.2.2.2.1,())
 else
 if (Int.tmod (wi (r13.1.1+x10.2.2.1)) ((((if 16<y1.c.workers then 16 else y1.c.workers)).toNat:Nat):Int))=((3:Nat):Int) then
 (ah1 x10.2.2.2.1.bm.b3).bind fun r26 =>
 some (r26.1.1,x10.2.2.2.1,())
 else
 if (Int.tmod (wi (r13.1.1+x10.2.2.1)) ((((if 16<y1.c.workers then 16 else y1.c.workers)).toNat:Nat):Int))=((2:Nat):Int) then
 (ah1 x10.2.2.2.1.bm.b2).bind fun r27 =>
 some (r27.1.1,x10.2.2.2.1,())
 else
 if (Int.tmod (wi (r13.1.1+x10.2.2.1)) ((((if 16<y1.c.workers then 16 else y1.c.workers)).toNat:Nat):Int))=((1:Nat):Int) then
 (ah1 x10.2.2.2.1.bm.b1).bind fun r28 =>
 some (r28.1.1,x10.2.2.2.1,())
 else
 if (Int.tmod (wi (r13.1.1+x10.2.2.1)) ((((if 16<y1.c.workers then 16 else y1.c.workers)).toNat:Nat):Int))=((0:Nat):Int) then
 (ah1 x10.2.2.2.1.bm.b0).bind fun r29 =>
 some (r29.1.1,x10.2.2.2.1,())
 else
 none
 else none
 ):Option (Int×ProbeV×Unit)).bind fun z30 =>
 if (Int.tmod (wi (r13.1.1+x10.2.2.1)) ((((if 16<y1.c.workers then 16 else y1.c.workers)).toNat:Nat):Int))≠r9.2.1.worker then
 if x10.2.1<z30.1 then
 self12 ((Int.tmod (wi (r13.1.1+x10.2.2.1)) ((((if 16<y1.c.workers then 16 else y1.c.workers)).toNat:Nat):Int)),z30.1,wi (x10.2.2.1+1),z30.2.1,())
 else
 self12 (x10.1,x10.2.1,wi (x10.2.2.1+1),z30.2.1,())
 else
 self12 (x10.1,x10.2.1,wi (x10.2.2.1+1),z30.2.1,())
 else none
 else
 some (x10.1,x10.2.1,x10.2.2.1,x10.2.2.2.1,())
 ) 18446744073709551616 ((-1),(-1),0,r9.2.1,())).bind fun z11 =>
 if z11.1<0 then
 (abx z11.2.2.2.1.o 2 0).bind fun r31 =>
 some ((r31.1.1,()),(({ z11.2.2.2.1 with o:=r31.2.1 }:ProbeV),z8.2.1,()))
 else
 (abx z11.2.2.2.1.o 1 (wi ((wi (z11.1*64))+z11.2.1))).bind fun r32 =>
 some ((r32.1.1,()),(({ z11.2.2.2.1 with o:=r32.2.1 }:ProbeV),z8.2.1,()))
 else none
 else none
noncomputable abbrev aps:Con SR1:=⟨233,[.ref 46,.ref 27],[.sh .b],fun x =>abB x.1 x.2.1⟩
noncomputable def an5:List (Nat×Func):=[(236,Tryz.f236)]
theorem an6:CO Tryz.prog aps:=agL aai Tryz.func233 [abE,aBf,ajS,ada,ahR,ac9,aiT,awM] ⟨abb,aD4,an7,abV,ahs,ach,agU,ayn,trivial⟩ an5 ⟨Tryz.func236,trivial⟩ (fun f =>(get [(236,[(4,.loop [.rg 6 sI_,.rg 7 sI_,.rg 15 sI_,.ob 0 46] 18446744073709551616 0),(8,.cut [.rg 11 sI_,.ob 0 46] [])])] f).getD []) [(6,.cut [.ob 0 46,.ob 1 27] []),(10,.cut [.ob 0 46,.ob 1 27] [])] fun x =>by kernel_rfl
noncomputable def af6 (y0:EnvP) (y1:Int):Option ((Bool×Unit)×(EnvP×Unit)) :=
 if 0≤y1 then
 some ((decide (y1<y0.c.tasks),()),(y0,()))
 else
 some ((false,()),(y0,()))
noncomputable abbrev ahe:Con SR1:=⟨187,[.ref 27,.sh sI_],[.sh .b],fun x =>af6 x.1 x.2.1⟩
theorem aiq:CO Tryz.prog ahe:=aal aai Tryz.func187 [] trivial
noncomputable def ack (y0:AllocV) (y1:EnvP):Option ((Bool×Unit)×(AllocV×EnvP×Unit)) :=
 (aaw y0.o).bind fun r1 =>
 if r1.1.1=true then
 some ((true,()),((⟨r1.2.1⟩:AllocV),y1,()))
 else
 (aHi y1.l).bind fun r2 =>
 (aIE y1.m r2.1.1 1).bind fun r3 =>
 (af6 ({ y1 with m:=r3.2.1 }:EnvP) (wi (r3.1.1))).bind fun r4 =>
 if (!r4.1.1)=true then
 (abx r1.2.1 3 0).bind fun r5 =>
 some ((r5.1.1,()),((⟨r5.2.1⟩:AllocV),r4.2.1,()))
 else
 (abx r1.2.1 1 (wi (r3.1.1))).bind fun r6 =>
 some ((r6.1.1,()),((⟨r6.2.1⟩:AllocV),r4.2.1,()))
noncomputable abbrev alU:Con SR1:=⟨184,[.ref 35,.ref 27],[.sh .b],fun x =>ack x.1 x.2.1⟩
theorem alr:CO Tryz.prog alU:=aal aai Tryz.func184 [abE,aBc,ayt,ahe,ada] ⟨abb,aD1,awR,aiq,abV,trivial⟩
noncomputable def acb (y0:PublishV) (y1:EnvP):Option ((Bool×Unit)×(PublishV×EnvP×Unit)) :=
 (aaw y0.o).bind fun r1 =>
 if r1.1.1=true then
 some ((true,()),(({ y0 with o:=r1.2.1 }:PublishV),y1,()))
 else
 (af6 y1 y0.task).bind fun r2 =>
 if (!r2.1.1)=true then
 (abx r1.2.1 4 0).bind fun r3 =>
 some ((r3.1.1,()),(({ y0 with o:=r3.2.1 }:PublishV),r2.2.1,()))
 else
 if y0.line=1 then
 (aha r2.2.1.l y0.task).bind fun r4 =>
 if y0.level=y0.level then
 (abH r2.2.1.m r4.1.1 (wu (y0.level))).bind fun r5 =>
 some ((false,()),(({ y0 with o:=r1.2.1,line:=wi (y0.line+1) }:PublishV),({ r2.2.1 with m:=r5.2.1 }:EnvP),()))
 else none
 else
 if y0.line=2 then
 (akv r2.2.1.l y0.task).bind fun r6 =>
 (aux r2.2.1.k).bind fun r7 =>
 (abH r2.2.1.m r6.1.1 (wu (r7.1.1))).bind fun r8 =>
 some ((false,()),(({ y0 with o:=r1.2.1,line:=wi (y0.line+1) }:PublishV),({ r2.2.1 with m:=r8.2.1,k:=r7.2.1 }:EnvP),()))
 else
 (ag9 r2.2.1.l y0.task).bind fun r9 =>
 (abH r2.2.1.m r9.1.1 1).bind fun r10 =>
 (abx r1.2.1 0 0).bind fun r11 =>
 some ((r11.1.1,()),(({ y0 with o:=r11.2.1 }:PublishV),({ r2.2.1 with m:=r10.2.1 }:EnvP),()))
noncomputable abbrev amv:Con SR1:=⟨250,[.ref 50,.ref 27],[.sh .b],fun x =>acb x.1 x.2.1⟩
theorem alT:CO Tryz.prog amv:=aal aai Tryz.func250 [abE,ahe,ada,ahk,aev,ak8,aoW,ahj] ⟨abb,aiq,abV,agB,adT,akt,alZ,agA,trivial⟩
noncomputable def adJ (y0:ClaimV) (y1:EnvP):Option ((Bool×Unit)×(ClaimV×EnvP×Unit)) :=
 (aaw y0.o).bind fun r1 =>
 if r1.1.1=true then
 some ((true,()),(({ y0 with o:=r1.2.1 }:ClaimV),y1,()))
 else
 if y0.task=y0.task then
 if y0.worker=y0.worker then
 (ag9 y1.l y0.task).bind fun r2 =>
 (awc y1.m r2.1.1 1 2).bind fun r3 =>
 if (!r3.1.1)=true then
 (aeV ({ y1 with m:=r3.2.1 }:EnvP) ({ y0 with kind:=15,other:=0,level:=0 }:Ev)).bind fun r4 =>
 (abx r1.2.1 4 0).bind fun r5 =>
 some ((r5.1.1,()),(({ y0 with o:=r5.2.1 }:ClaimV),r4.2.1,()))
 else
 if 0≤y0.task∧y0.task<((y1.recs.length:Nat):Int) then
 if (aab y1.recs y0.task).started=true then
 (aeV ({ y1 with m:=r3.2.1 }:EnvP) ({ y0 with kind:=9,other:=0,level:=0 }:Ev)).bind fun r6 =>
 (abx r1.2.1 1 y0.task).bind fun r7 =>
 some ((r7.1.1,()),(({ y0 with o:=r7.2.1 }:ClaimV),r6.2.1,()))
 else
 (aeV ({ y1 with m:=r3.2.1,recs:=y1.recs.set y0.task.toNat ({ aab y1.recs y0.task with started:=true }:RecP) }:EnvP) ({ y0 with kind:=5,other:=0,level:=0 }:Ev)).bind fun r8 =>
 (abx r1.2.1 1 y0.task).bind fun r9 =>
 some ((r9.1.1,()),(({ y0 with o:=r9.2.1 }:ClaimV),r8.2.1,()))
 else none
 else none
 else none
noncomputable abbrev apj:Con SR1:=⟨231,[.ref 45,.ref 27],[.sh .b],fun x =>adJ x.1 x.2.1⟩
theorem anQ:CO Tryz.prog apj:=aal aai Tryz.func231 [abE,ahj,am0,agb,ada] ⟨abb,agA,akz,afa,abV,trivial⟩
noncomputable def adc (y0:AttemptV) (y1:EnvP):Option ((Bool×Unit)×(AttemptV×EnvP×Unit)) :=
 (aaw y0.o).bind fun r1 =>
 if r1.1.1=true then
 some ((true,()),(({ y0 with o:=r1.2.1 }:AttemptV),y1,()))
 else
 (aBe y1.l).bind fun r2 =>
 if y0.owner=y0.owner then
 (awc y1.m r2.1.1 0 (wu (wi (y0.owner+1)))).bind fun r3 =>
 if r3.1.1=true then
 (abx r1.2.1 1 0).bind fun r4 =>
 some ((r4.1.1,()),(({ y0 with o:=r4.2.1 }:AttemptV),({ y1 with m:=r3.2.1 }:EnvP),()))
 else
 if y0.once=true then
 (abx r1.2.1 5 0).bind fun r5 =>
 some ((r5.1.1,()),(({ y0 with o:=r5.2.1 }:AttemptV),({ y1 with m:=r3.2.1 }:EnvP),()))
 else
 some ((false,()),(({ y0 with o:=r1.2.1 }:AttemptV),({ y1 with m:=r3.2.1 }:EnvP),()))
 else none
noncomputable abbrev aol:Con SR1:=⟨181,[.ref 34,.ref 27],[.sh .b],fun x =>adc x.1 x.2.1⟩
theorem ana:CO Tryz.prog aol:=aal aai Tryz.func181 [abE,awK,am0,ada] ⟨abb,ayl,akz,abV,trivial⟩
noncomputable def adb (y0:ReleaseV) (y1:EnvP):Option ((Bool×Unit)×(ReleaseV×EnvP×Unit)) :=
 (aaw y0.o).bind fun r1 =>
 if r1.1.1=true then
 some ((true,()),((⟨r1.2.1⟩:ReleaseV),y1,()))
 else
 (aBe y1.l).bind fun r2 =>
 (abH y1.m r2.1.1 0).bind fun r3 =>
 (abx r1.2.1 0 0).bind fun r4 =>
 some ((r4.1.1,()),((⟨r4.2.1⟩:ReleaseV),({ y1 with m:=r3.2.1 }:EnvP),()))
noncomputable abbrev aok:Con SR1:=⟨195,[.ref 37,.ref 27],[.sh .b],fun x =>adb x.1 x.2.1⟩
theorem am9:CO Tryz.prog aok:=aal aai Tryz.func195 [abE,awK,aev,ada] ⟨abb,ayl,adT,abV,trivial⟩
noncomputable def aee (y0:OPushV) (y1:EnvP):Option ((Bool×Unit)×(OPushV×EnvP×Unit)) :=
 (aaw y0.o).bind fun r1 =>
 if r1.1.1=true then
 some ((true,()),(({ y0 with o:=r1.2.1 }:OPushV),y1,()))
 else
 if y0.line=1 then
 (adm y1.m y0.q.bottom).bind fun r2 =>
 some ((false,()),(({ y0 with o:=r1.2.1,line:=wi (y0.line+1),b:=r2.1.1 }:OPushV),({ y1 with m:=r2.2.1 }:EnvP),()))
 else
 if y0.line=2 then
 (adm y1.m y0.q.top).bind fun r3 =>
 (awJ y0.b r3.1.1).bind fun r4 =>
 if y0.q.cap=y0.q.cap then
 if y0.q.cap≤r4.1.1 then
 (abx r1.2.1 3 0).bind fun r5 =>
 some ((r5.1.1,()),(({ y0 with o:=r5.2.1 }:OPushV),({ y1 with m:=r3.2.1 }:EnvP),()))
 else
 some ((false,()),(({ y0 with o:=r1.2.1,line:=wi (y0.line+1) }:OPushV),({ y1 with m:=r3.2.1 }:EnvP),()))
 else none
 else
 if y0.line=3 then
 (awN y0.q y0.b).bind fun r6 =>
 if y0.value=y0.value then
 (abH y1.m r6.1.1 (wu (y0.value))).bind fun r7 =>
 some ((false,()),(({ y0 with o:=r1.2.1,line:=wi (y0.line+1) }:OPushV),({ y1 with m:=r7.2.1 }:EnvP),()))
 else none
 else
 (abH y1.m y0.q.bottom (wu (y0.b+1))).bind fun r8 =>
 (abx r1.2.1 0 0).bind fun r9 =>
 some ((r9.1.1,()),(({ y0 with o:=r9.2.1 }:OPushV),({ y1 with m:=r8.2.1 }:EnvP),()))
noncomputable abbrev aqM:Con SR1:=⟨262,[.ref 53,.ref 27],[.sh .b],fun x =>aee x.1 x.2.1⟩
theorem apy:CO Tryz.prog aqM:=aal aai Tryz.func262 [abE,ac9,aoc,ada,ate,aev] ⟨abb,ach,amY,abV,atd,adT,trivial⟩
noncomputable def ait (y0:OPopV) (y1:EnvP):Option ((Int×Unit)×(OPopV×EnvP×Unit)) :=
 (adm y1.m y0.q.top).bind fun r1 =>
 (awJ (wu (y0.b-1)) r1.1.1).bind fun r2 =>
 if 0<r2.1.1 then
 some ((5,()),(({ y0 with t:=r1.1.1 }:OPopV),({ y1 with m:=r1.2.1 }:EnvP),()))
 else
 if r2.1.1=0 then
 some ((6,()),(({ y0 with t:=r1.1.1 }:OPopV),({ y1 with m:=r1.2.1 }:EnvP),()))
 else
 some ((9,()),(({ y0 with t:=r1.1.1 }:OPopV),({ y1 with m:=r1.2.1 }:EnvP),()))
noncomputable abbrev ajT:Con SR1:=⟨260,[.ref 52,.ref 27],[.sh sI_],fun x =>ait x.1 x.2.1⟩
theorem aof:CO Tryz.prog ajT:=aal aai Tryz.func260 [ac9,aoc] ⟨ach,amY,trivial⟩
noncomputable def aeD (y0:OPopV) (y1:EnvP):Option ((Bool×Unit)×(OPopV×EnvP×Unit)) :=
 (aaw y0.o).bind fun r1 =>
 if r1.1.1=true then
 some ((true,()),(({ y0 with o:=r1.2.1 }:OPopV),y1,()))
 else
 if y0.line=1 then
 (adm y1.m y0.q.bottom).bind fun r2 =>
 some ((false,()),(({ y0 with o:=r1.2.1,line:=wi (y0.line+1),b:=r2.1.1 }:OPopV),({ y1 with m:=r2.2.1 }:EnvP),()))
 else
 if y0.line=2 then
 (adm y1.m y0.q.top).bind fun r3 =>
 (awJ y0.b r3.1.1).bind fun r4 =>
 if r4.1.1≤0 then
 (abx r1.2.1 2 0).bind fun r5 =>
 some ((r5.1.1,()),(({ y0 with o:=r5.2.1,t:=r3.1.1 }:OPopV),({ y1 with m:=r3.2.1 }:EnvP),()))
 else
 some ((false,()),(({ y0 with o:=r1.2.1,line:=wi (y0.line+1),t:=r3.1.1 }:OPopV),({ y1 with m:=r3.2.1 }:EnvP),()))
 else
 if y0.line=3 then
 (abH y1.m y0.q.bottom (wu (y0.b-1))).bind fun r6 =>
 some ((false,()),(({ y0 with o:=r1.2.1,line:=wi (y0.line+1) }:OPopV),({ y1 with m:=r6.2.1 }:EnvP),()))
 else
 if y0.line=4 then
 (ait ({ y0 with o:=r1.2.1 }:OPopV) y1).bind fun r7 =>
 some ((false,()),(({ r7.2.1 with line:=r7.1.1 }:OPopV),r7.2.2.1,()))
 else
 if y0.line=5 then
 if y0.line=5 then
 (awN y0.q (wu (y0.b-1))).bind fun r8 =>
 (adm y1.m r8.1.1).bind fun r9 =>
 (abx r1.2.1 1 (wi (r9.1.1))).bind fun r10 =>
 some ((r10.1.1,()),(({ y0 with o:=r10.2.1 }:OPopV),({ y1 with m:=r9.2.1 }:EnvP),()))
 else
 if y0.line=6 then
 (awc y1.m y0.q.top y0.t (wu (y0.t+1))).bind fun r11 =>
 if (!r11.1.1)=true then
 some ((false,()),(({ y0 with o:=r1.2.1,line:=9 }:OPopV),({ y1 with m:=r11.2.1 }:EnvP),()))
 else
 some ((false,()),(({ y0 with o:=r1.2.1,line:=wi (y0.line+1) }:OPopV),({ y1 with m:=r11.2.1 }:EnvP),()))
 else
 if y0.line=7 then
 (abH y1.m y0.q.bottom y0.b).bind fun r12 =>
 some ((false,()),(({ y0 with o:=r1.2.1,line:=wi (y0.line+1) }:OPopV),({ y1 with m:=r12.2.1 }:EnvP),()))
 else
 (abH y1.m y0.q.bottom y0.b).bind fun r13 =>
 (abx r1.2.1 2 0).bind fun r14 =>
 some ((r14.1.1,()),(({ y0 with o:=r14.2.1 }:OPopV),({ y1 with m:=r13.2.1 }:EnvP),()))
 else
 if y0.line=8 then
 (awN y0.q (wu (y0.b-1))).bind fun r15 =>
 (adm y1.m r15.1.1).bind fun r16 =>
 (abx r1.2.1 1 (wi (r16.1.1))).bind fun r17 =>
 some ((r17.1.1,()),(({ y0 with o:=r17.2.1 }:OPopV),({ y1 with m:=r16.2.1 }:EnvP),()))
 else
 if y0.line=6 then
 (awc y1.m y0.q.top y0.t (wu (y0.t+1))).bind fun r18 =>
 if (!r18.1.1)=true then
 some ((false,()),(({ y0 with o:=r1.2.1,line:=9 }:OPopV),({ y1 with m:=r18.2.1 }:EnvP),()))
 else
 some ((false,()),(({ y0 with o:=r1.2.1,line:=wi (y0.line+1) }:OPopV),({ y1 with m:=r18.2.1 }:EnvP),()))
 else
 if y0.line=7 then
 (abH y1.m y0.q.bottom y0.b).bind fun r19 =>
 some ((false,()),(({ y0 with o:=r1.2.1,line:=wi (y0.line+1) }:OPopV),({ y1 with m:=r19.2.1 }:EnvP),()))
 else
 (abH y1.m y0.q.bottom y0.b).bind fun r20 =>
 (abx r1.2.1 2 0).bind fun r21 =>
 some ((r21.1.1,()),(({ y0 with o:=r21.2.1 }:OPopV),({ y1 with m:=r20.2.1 }:EnvP),()))
noncomputable abbrev arL:Con SR1:=⟨259,[.ref 52,.ref 27],[.sh .b],fun x =>aeD x.1 x.2.1⟩
theorem aqO:CO Tryz.prog arL:=aal aai Tryz.func259 [abE,ac9,aoc,ada,aev,ajT,ate,am0] ⟨abb,ach,amY,abV,adT,aof,atd,akz,trivial⟩
noncomputable def adI (y0:StealV) (y1:EnvP):Option ((Bool×Unit)×(StealV×EnvP×Unit)) :=
 (aaw y0.o).bind fun r1 =>
 if r1.1.1=true then
 some ((true,()),(({ y0 with o:=r1.2.1 }:StealV),y1,()))
 else
 if y0.line=1 then
 (adm y1.m y0.q.top).bind fun r2 =>
 some ((false,()),(({ y0 with o:=r1.2.1,line:=wi (y0.line+1),t:=r2.1.1 }:StealV),({ y1 with m:=r2.2.1 }:EnvP),()))
 else
 if y0.line=2 then
 (adm y1.m y0.q.bottom).bind fun r3 =>
 (awJ r3.1.1 y0.t).bind fun r4 =>
 if r4.1.1≤0 then
 (abx r1.2.1 2 0).bind fun r5 =>
 some ((r5.1.1,()),(({ y0 with o:=r5.2.1 }:StealV),({ y1 with m:=r3.2.1 }:EnvP),()))
 else
 some ((false,()),(({ y0 with o:=r1.2.1,line:=wi (y0.line+1) }:StealV),({ y1 with m:=r3.2.1 }:EnvP),()))
 else
 if y0.line=3 then
 (awN y0.q y0.t).bind fun r6 =>
 (adm y1.m r6.1.1).bind fun r7 =>
 some ((false,()),(({ y0 with o:=r1.2.1,line:=wi (y0.line+1),value:=r7.1.1 }:StealV),({ y1 with m:=r7.2.1 }:EnvP),()))
 else
 (awc y1.m y0.q.top y0.t (wu (y0.t+1))).bind fun r8 =>
 if r8.1.1=true then
 (abx r1.2.1 1 (wi (y0.value))).bind fun r9 =>
 some ((r9.1.1,()),(({ y0 with o:=r9.2.1 }:StealV),({ y1 with m:=r8.2.1 }:EnvP),()))
 else
 (abx r1.2.1 4 0).bind fun r10 =>
 some ((r10.1.1,()),(({ y0 with o:=r10.2.1 }:StealV),({ y1 with m:=r8.2.1 }:EnvP),()))
noncomputable abbrev apg:Con SR1:=⟨219,[.ref 42,.ref 27],[.sh .b],fun x =>adI x.1 x.2.1⟩
theorem anN:CO Tryz.prog apg:=aal aai Tryz.func219 [abE,ac9,aoc,ada,ate,am0] ⟨abb,ach,amY,abV,atd,akz,trivial⟩
noncomputable def aeh (y0:SetV) (y1:EnvP):Option ((Bool×Unit)×(SetV×EnvP×Unit)) :=
 (aaw y0.o).bind fun r1 =>
 if r1.1.1=true then
 some ((true,()),(({ y0 with o:=r1.2.1 }:SetV),y1,()))
 else
 (aC1 y0.bit).bind fun r2 =>
 if y0.cell=y0.cell then
 (pOr y1.m y0.cell r2.1.1).bind fun r3 =>
 (abx r1.2.1 0 0).bind fun r4 =>
 some ((r4.1.1,()),(({ y0 with o:=r4.2.1 }:SetV),({ y1 with m:=r3.2.1 }:EnvP),()))
 else none
noncomputable abbrev arE:Con SR1:=⟨264,[.ref 54,.ref 27],[.sh .b],fun x =>aeh x.1 x.2.1⟩
theorem apM:CO Tryz.prog arE:=aal aai Tryz.func264 [abE,avf,aD0,ada] ⟨abb,atg,aBb,abV,trivial⟩
noncomputable def adf (y0:ResetV) (y1:EnvP):Option ((Bool×Unit)×(ResetV×EnvP×Unit)) :=
 (aaw y0.o).bind fun r1 =>
 if r1.1.1=true then
 some ((true,()),(({ y0 with o:=r1.2.1 }:ResetV),y1,()))
 else
 (aC1 y0.bit).bind fun r2 =>
 if y0.line=1 then
 (aFJ y1.m y0.cell (aEY r2.1.1)).bind fun r3 =>
 some ((false,()),(({ y0 with o:=r1.2.1,line:=wi (y0.line+1) }:ResetV),({ y1 with m:=r3.2.1 }:EnvP),()))
 else
 if y0.line=2 then
 (adm y1.m y0.q.bottom).bind fun r4 =>
 some ((false,()),(({ y0 with o:=r1.2.1,line:=wi (y0.line+1),b:=r4.1.1 }:ResetV),({ y1 with m:=r4.2.1 }:EnvP),()))
 else
 if y0.line=3 then
 (adm y1.m y0.q.top).bind fun r5 =>
 (awJ y0.b r5.1.1).bind fun r6 =>
 if r6.1.1≤0 then
 (abx r1.2.1 2 0).bind fun r7 =>
 some ((r7.1.1,()),(({ y0 with o:=r7.2.1 }:ResetV),({ y1 with m:=r5.2.1 }:EnvP),()))
 else
 some ((false,()),(({ y0 with o:=r1.2.1,line:=wi (y0.line+1) }:ResetV),({ y1 with m:=r5.2.1 }:EnvP),()))
 else
 (pOr y1.m y0.cell r2.1.1).bind fun r8 =>
 (abx r1.2.1 1 0).bind fun r9 =>
 some ((r9.1.1,()),(({ y0 with o:=r9.2.1 }:ResetV),({ y1 with m:=r8.2.1 }:EnvP),()))
noncomputable abbrev aoz:Con SR1:=⟨223,[.ref 43,.ref 27],[.sh .b],fun x =>adf x.1 x.2.1⟩
theorem anG:CO Tryz.prog aoz:=aal aai Tryz.func223 [abE,avf,ays,ac9,aoc,ada,aD0] ⟨abb,atg,awQ,ach,amY,abV,aBb,trivial⟩
noncomputable def aef (y0:InsertV):Option ((Int×Unit)×(InsertV×Unit)) :=
 if 0<y0.i then
 some ((3,()),(y0,()))
 else
 some ((5,()),(y0,()))
noncomputable abbrev agI:Con SR1:=⟨192,[.ref 36],[.sh sI_],fun x =>aef x.1⟩
theorem aj5:CO Tryz.prog agI:=aal aai Tryz.func192 [] trivial
end
end Go.Proofs.YtidhehdanppcoaaGreat
