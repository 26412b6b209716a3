/- Objects that are owned; a range over a function whose rounds are told what lies at their argument. No program occurs here. What a call has made and hands back,held to be read: no program occurs here. What is held to be read by many; rows of things that hold a list of numbers; entailments in the world. No program occurs here. Rows of things each of which holds a list of numbers that is only read. No program occurs here. The reference's data: memories,records,frames,events; how they lie; words for what its functions answer. No program occurs here. Evaluation by itself,3: what lies in memory: fields,objects,rows. No program occurs here. Maps from numbers that a call owns. No program occurs here. Evaluation by itself,4: what is held,by numbers; fields opened; cells read and written. No program occurs here. Evaluation by itself,5: reading. No program occurs here. -/
import Derived.RangeFuncFrom
import Derived.RangeFuncLeaves
import Derived.RangeFuncBound
import Derived.Test.YtjjbdbbmdhncjaaGreatSzab
import Derived.Test.YtjjbdbbmdhncjaaGreatSzaa
import Derived.Maps.Keyed
set_option linter.all false
namespace Go.Proofs.YtjjbdbbmdhncjaaGreat
section
open Go Go.RowKit
def aeo (l:Nat) (o:Obj):aak:=fun h =>h l 0=some (.obj o)
section
variable {B:Nat} {w:World} {L M:List aak} {l:Nat} {o o':Obj}
theorem Sat.obj (s:Sat B w (aeo l o::L)):B≤l∧w.heap[l]?=some o∧Obj.plain o=true:=by
 obtain ⟨h,H,k1,k2,a,e,hA,hL⟩:=s
 have:=H l 0 (.obj o) (by rw [e]; unfold acI; rw [show k1 l 0=_ from hA])
 exact ⟨this.1.resolve_right id,this.2.1,this.2.2.1⟩
theorem ajE {b j:Nat} {v:Value} (h:w.heap[b]?=some o) (hp:Obj.plain o=true):w.cell? ⟨b,j,none⟩≠some v:=by
 unfold World.cell?; rw [h]; cases o<;>simp_all [Obj.plain]
theorem Sat.putObj (s:Sat B w (aeo l o::L)) (hp:Obj.plain o'=true):Sat B (w.putObj l o') (aeo l o'::L):=by
 have s0:=s.obj
 obtain ⟨h,H,k1,k2,a,e,hA,hL⟩:=s
 have hA':k1 l 0=some (.obj o):=hA
 refine ⟨acI (fun b j =>if b=l∧j=0 then some (.obj o') else k1 b j) k2,?_,_,k2,?_,rfl,?_,hL⟩
 ·intro b j x hx
  by_cases hc:b=l∧j=0
  ·obtain ⟨rfl,rfl⟩:=hc
   unfold acI at hx
   simp only [and_self,if_true] at hx
   obtain rfl:=Option.some.inj hx
   exact ⟨.inl s0.1,World.putObj_heap_same (Array.getElem?_eq_some_iff.1 s0.2.1).1,hp,rfl⟩
  ·have hx':h b j=some x:=by
    rw [e]; unfold acI at hx ⊢
    simp only [if_neg hc] at hx
    exact hx
   have h2:=H b j x hx'
   refine ⟨h2.1,?_⟩
   by_cases hb:b=l
   ·subst hb
    cases x with
    | cell v =>exact absurd h2.2.1 (ajE s0.2.1 s0.2.2)
    | obj y =>exact absurd ⟨rfl,h2.2.2.2⟩ hc
    | look v =>exact absurd h2.2 (ajE s0.2.1 s0.2.2)
   ·exact h2.2.same (World.putObj_heap_other hb)
 ·intro b j
  by_cases hc:b=l∧j=0
  ·obtain ⟨rfl,rfl⟩:=hc
   rcases a b 0 with h2 | h2 | ⟨v,h2,_⟩
   ·rw [hA'] at h2; cases h2
   ·exact .inr (.inl h2)
   ·rw [hA'] at h2; cases h2
  ·simp only [if_neg hc]; exact a b j
 ·show (if l=l∧0=0 then some (Item.obj o') else k1 l 0)=some (.obj o')
  simp
theorem Sat.newObj (s:Sat B w L) (hB:B≤w.heap.size) (hp:Obj.plain o=true):Sat B (w.alloc o) (aeo w.heap.size o::L):=by
 obtain ⟨h,H,hL⟩:=s
 have hfar:∀ j,h w.heap.size j=none:=fun j =>by
  cases e:h w.heap.size j with
  | none =>rfl
  | some x =>exact absurd (H _ _ _ e).2.lt (by omega)
 refine ⟨acI (fun b j =>if b=w.heap.size∧j=0 then some (.obj o) else none) h,?_,_,h,?_,rfl,?_,hL⟩
 ·intro b j x hx
  unfold acI at hx
  by_cases hc:b=w.heap.size∧j=0
  ·obtain ⟨rfl,rfl⟩:=hc
   simp only [and_self,if_true] at hx
   obtain rfl:=Option.some.inj hx
   exact ⟨.inl hB,heap_alloc_new w _,hp,rfl⟩
  ·simp only [if_neg hc] at hx
   have h2:=H b j x hx
   exact ⟨h2.1,h2.2.same (Below.heap_alloc w _ _ h2.2.lt)⟩
 ·intro b j
  by_cases hc:b=w.heap.size∧j=0
  ·obtain ⟨rfl,rfl⟩:=hc; exact .inr (.inl (hfar _))
  ·left; simp [hc]
 ·show (if w.heap.size=w.heap.size∧0=0 then some (Item.obj o) else none)=some (.obj o)
  simp
end
section
variable {P:Program} {Q:Exit→Act→World→Prop} {B:Nat} {W:World} {L M:List aak}
 {ty:TypeId} {ps:String} {af:Array Edge} {g:Option (Nat×Bool)}
theorem Cls.perm {w:World} (h:Cls B W L w) (p:L.Perm M):Cls B W M w:=⟨h.1,h.2.1,h.2.2.perm p⟩
theorem Cls.ent {w:World} (h:Cls B W L w) (e:Ent L M):Cls B W M w:=⟨h.1,h.2.1,e.sat h.2.2⟩
theorem Cls.putObj {w:World} {l:Nat} {o o':Obj} (h:Cls B W (aeo l o::L) w) (hp:Obj.plain o'=true):Cls B W (aeo l o'::L) (w.putObj l o') :=
 ⟨h.1.grown (grownBy_putObj' w l o') h.2.1 (fun k e =>by cases e; exact h.2.2.obj.1),by simpa using h.2.1,h.2.2.putObj hp⟩
theorem Cls.newObj {w:World} {o:Obj} (h:Cls B W L w) (hp:Obj.plain o=true):Cls B W (aeo w.heap.size o::L) (w.alloc o) :=
 ⟨h.1.alloc h.2.1 o,by rw [World.size_alloc]; have:=h.2.1; omega,h.2.2.newObj h.2.1 hp⟩
def aFW {α:Type} (P:Program) (gf:Nat) (lb:Array Value) (encs:α→Array Value) (B:Nat) (W:World) (Sh:List aak) (G:α→List aak) (ok:List α→α→Prop) (S Sp:List α→Prop):Prop :=
 ∀ (l:Nat) (J Jx:List α→List aak),
  (∀ pre x F w,ok pre x→Cls B W (G x++Sh++J pre++[F]) w→YieldAt Fence.wide 0 P l (encs x) w fun e w' =>
   (e=.returned (.bool true)∧Cls B W (G x++Sh++J (pre++[x])++[F]) w')∨(e=.returned (.bool false)∧Cls B W (G x++Sh++Jx (pre++[x])++[F]) w')) →
  ∀ F w,Cls B W (Sh++J []++[F]) w→CallsIn Fence.wide 1 P gf (#[.func (.yield l) #[] #[]]++lb) w fun e w' =>(∃ v,e=.returned v) ∧
   ((∃ xs,S xs∧Cls B W (Sh++J xs++[F]) w')∨(∃ pre,Sp pre∧Cls B W (Sh++Jx pre++[F]) w'))
def aDv {α:Type} (B:Nat) (W:World) (Sh:List aak) (G:α→List aak) (I Ix:List α→List aak) (pre:List α) (x:α) (F:aak):Exit→Act→World→Prop
 | .normal,_,w' =>Cls B W (G x++Sh++I (pre++[x])++[F]) w'
 | .ret,_,w' =>Cls B W (G x++Sh++Ix (pre++[x])++[F]) w'
 | _,_,_ =>False
theorem aoZ {L M:List aak} {w:World} (h:Cls B W (L++M) w):Cls B W (L++[aic M]) w:=⟨h.1,h.2.1,h.2.2.fold⟩
theorem ah9 {L M:List aak} {w:World} (h:Cls B W (L++[aic M]) w):Cls B W (L++M) w:=⟨h.1,h.2.1,h.2.2.unfold⟩
theorem aqS {α:Type} {go:Operand} {pl:Array Tmp} {assign body:Code} {a:Act} {w:World} {gf:Nat} {lb:Array Value} {encs:α→Array Value} {Sh:List aak} {G:α→List aak} {ok:List α→α→Prop} {S Sp:List α→Prop}
  (hg:a.eval go=.func (.func gf) #[] lb) (eg:∀ args w,(callFunc gf args).run P w=.ok (.enter gf args) w) (hseq:aFW P gf lb encs B W Sh G ok S Sp) (hps:∀ x,(encs x).size=pl.size)
  (I Ix:List α→List aak) {F0:aak} (h0:Cls B W (Sh++I []++[F0]) w) (Ax:α→Act→Prop)
  (hassign:∀ (l:Nat) (x:α) (w':World) (K:Act→World→Prop),(∀ a',Ax x a'→K a' w')→assign.wpIn (rf (some l)) 0 P (Exit.then K (fun _ _ _ =>False)) { tmps:=(pl.zip (encs x)).foldl (fun t (p,v) =>t.setIfInBounds p v) a.tmps,defers:=[] } w')
  (hbody:∀ (l:Nat) (pre:List α) (x:α) (F:aak) (w':World) (a':Act),Ax x a'→ok pre x→Cls B W (G x++Sh++I pre++[F]) w'→body.wpIn (rf (some l)) 0 P (aDv B W Sh G I Ix pre x F) a' w')
  (hdone:∀ (D:Nat) (xs:List α) (w':World),S xs→Cls B W (aeo D (.deferred (some []))::(Sh++I xs++[F0])) w'→Q .normal { a with defers:={ target:=.collected D,args:=#[] }::a.defers } w')
  (hstop:∀ (D:Nat) (pre:List α) (w':World),Sp pre→Cls B W (aeo D (.deferred (some []))::(Sh++Ix pre++[F0])) w'→Q .ret { a with defers:={ target:=.collected D,args:=#[] }::a.defers } w') :
  (Code.rangeFunc go pl assign body).wpIn (rf none) 0 P Q a w:=by
 refine (wpIn_wide (n:=0)).2 ((wpIn_wide (n:=2)).1 ?_)
 refine wpIn_rangeFunc ?_
 intro fn _
 let rec_:LoopState→Option Code→Loop:=fun st pe =>{ state:=st,pending:=pe,fn,tmps:=a.tmps,params:=pl,assign,body,defers:=w.heap.size }
 have hA:=h0.newObj (o:=.deferred (some [])) rfl
 have hB:=hA.newObj (o:=.loop (rec_ .ready none)) rfl
 rw [World.size_alloc] at hB
 refine ⟨w.heap.size+1,[{ target:=.collected w.heap.size,args:=#[] }],(w.alloc (.deferred (some []))).alloc (.loop (rec_ .ready none)),{ target:=.fn (.func gf) lb,args:=#[.func (.yield (w.heap.size+1)) #[] #[]] },(w.alloc (.deferred (some []))).alloc (.loop (rec_ .ready none)),gf,
  #[.func (.yield (w.heap.size+1)) #[] #[]]++lb,(w.alloc (.deferred (some []))).alloc (.loop (rec_ .ready none)),run_enterLoop_outer _ _ _ _ _,?_,fun (_:FuncId) _ =>trivial,?_,fun _ =>by omega,?_⟩
 ·simp only [resolve,hg]
  simp [go_sem]
 ·simp [invoke,go_sem,eg]
 ·have p0:(aeo (w.heap.size+1) (.loop (rec_ .ready none))::aeo w.heap.size (.deferred (some []))::(Sh++I []++[F0])).Perm (Sh++(I []++[aeo (w.heap.size+1) (.loop (rec_ .ready none)),aeo w.heap.size (.deferred (some []))])++[F0]):=by
   rw [List.append_assoc Sh,List.append_assoc Sh,List.append_assoc (I [])]
   exact ((List.perm_append_comm (l₁:=[_,_]) (l₂:=Sh++(I []++[F0]))).trans (by
    rw [List.append_assoc,List.append_assoc]
    exact List.Perm.append_left _ (List.Perm.append_left _ (List.perm_append_comm (l₁:=[F0])))))
  refine (hseq (w.heap.size+1) (fun pre =>I pre++[aeo (w.heap.size+1) (.loop (rec_ .ready none)),aeo w.heap.size (.deferred (some []))])
   (fun pre =>Ix pre++[aeo (w.heap.size+1) (.loop (rec_ .done (some .ret))),aeo w.heap.size (.deferred (some []))]) ?_ F0 _ (hB.perm p0)).mono ?_
  ·intro pre x F u hok hu
   -- the record comes up front
   have pf:∀ (J:List aak) (o:Obj),(aeo (w.heap.size+1) o::(G x++Sh++J++[aeo w.heap.size (.deferred (some [])),F])).Perm (G x++Sh++(J++[aeo (w.heap.size+1) o,aeo w.heap.size (.deferred (some []))])++[F]):=fun J o =>by
    have e:G x++Sh++(J++[aeo (w.heap.size+1) o,aeo w.heap.size (.deferred (some []))])++[F]=(G x++Sh++J)++aeo (w.heap.size+1) o::[aeo w.heap.size (.deferred (some [])),F]:=by simp
    rw [e]
    exact List.perm_middle.symm
   have hu1:=hu.perm (pf (I pre) _).symm
   have hl:=hu1.2.2.obj.2.1
   have hy:=run_yield (P:=P) (args:=encs x) hl (hps x)
   refine ⟨_,_,_,_,hy,roundIn_of_wpIn trivial (hassign _ x u _ fun a' ha' =>⟨_,run_beginRound hl rfl,?_⟩)⟩
   have hu2:=hu1.putObj (o':=.loop { rec_ .ready none with state:=.busy }) rfl
   have hu3:Cls B W (G x++Sh++I pre++[aic [aeo w.heap.size (.deferred (some [])),F,aeo (w.heap.size+1) (.loop { rec_ .ready none with state:=.busy })]]) _ :=
    aoZ (hu2.perm (by
     have e:G x++Sh++I pre++[aeo w.heap.size (.deferred (some [])),F,aeo (w.heap.size+1) (.loop { rec_ .ready none with state:=.busy })]=(G x++Sh++I pre++[aeo w.heap.size (.deferred (some [])),F])++[aeo (w.heap.size+1) (.loop { rec_ .ready none with state:=.busy })]:=by simp
     rw [e]; exact List.perm_append_comm (l₁:=[_])))
   have back:∀ (J:List aak) (u3:World) (jump:Option Code),Cls B W (G x++Sh++J++[aic [aeo w.heap.size (.deferred (some [])),F,aeo (w.heap.size+1) (.loop { rec_ .ready none with state:=.busy })]]) u3 →
     (Instr.endRound (w.heap.size+1) jump).run P u3=.ok (.bool jump.isNone) (u3.putObj (w.heap.size+1) (.loop (rec_ (if jump.isNone then .ready else .done) jump))) ∧
     Cls B W (G x++Sh++(J++[aeo (w.heap.size+1) (.loop (rec_ (if jump.isNone then .ready else .done) jump)),aeo w.heap.size (.deferred (some []))])++[F]) (u3.putObj (w.heap.size+1) (.loop (rec_ (if jump.isNone then .ready else .done) jump))):=fun J u3 jump h3 =>by
    have h4:=(ah9 h3).perm (M:=aeo (w.heap.size+1) (.loop { rec_ .ready none with state:=.busy })::(G x++Sh++J++[aeo w.heap.size (.deferred (some [])),F])) (by
     have e:G x++Sh++J++[aeo w.heap.size (.deferred (some [])),F,aeo (w.heap.size+1) (.loop { rec_ .ready none with state:=.busy })]=(G x++Sh++J++[aeo w.heap.size (.deferred (some [])),F])++[aeo (w.heap.size+1) (.loop { rec_ .ready none with state:=.busy })]:=by simp
     rw [e]; exact List.perm_append_comm (l₂:=[_]))
    exact ⟨run_endRound jump h4.2.2.obj.2.1,(h4.putObj rfl).perm (pf J _)⟩
   refine wpIn_mono (hbody _ pre x _ _ a' ha' hok hu3) ?_
   rintro e a3 u3 hp
   cases e with
   | normal =>
    obtain ⟨hr,h5⟩:=back _ u3 none hp
    exact ⟨_,_,hr,.inl ⟨rfl,h5⟩⟩
   | ret =>
    obtain ⟨hr,h5⟩:=back _ u3 (some .ret) hp
    exact ⟨_,_,hr,.inr ⟨rfl,h5⟩⟩
   | exit id =>exact hp.elim
   | goto t =>exact hp.elim
   | panic ch =>exact hp.elim
   | outgrown =>exact hp.elim
  ·have pb:∀ (J:List aak) (o:Obj),(Sh++(J++[aeo (w.heap.size+1) o,aeo w.heap.size (.deferred (some []))])++[F0]).Perm (aeo (w.heap.size+1) o::aeo w.heap.size (.deferred (some []))::(Sh++J++[F0])):=fun J o =>by
    have e:Sh++(J++[aeo (w.heap.size+1) o,aeo w.heap.size (.deferred (some []))])++[F0]=(Sh++J)++([aeo (w.heap.size+1) o,aeo w.heap.size (.deferred (some []))]++[F0]):=by simp
    rw [e]
    refine (List.Perm.append_left _ List.perm_append_comm).trans ?_
    rw [← List.append_assoc]
    exact List.perm_append_comm (l₂:=[_,_])
   rintro e u ⟨⟨v,rfl⟩,(⟨xs,hS,hu⟩ | ⟨pre,hSp,hu⟩)⟩
   ·have h1:=hu.perm (pb _ _)
    have h2:=h1.putObj (o':=.loop { rec_ .ready none with state:=.exhausted }) rfl
    have hr:=run_endLoop (P:=P) h1.2.2.obj.2.1 (by simp [rec_])
    exact ⟨none,_,hr,hdone _ xs _ hS (h2.ent Ent.drop)⟩
   ·have h1:=hu.perm (pb _ _)
    have h2:=h1.putObj (o':=.loop { rec_ .done (some .ret) with state:=.exhausted }) rfl
    have hr:=run_endLoop (P:=P) h1.2.2.obj.2.1 (by simp [rec_])
    exact ⟨some .ret,_,hr,wpIn_ret (hstop _ pre _ hSp (h2.ent Ent.drop))⟩
theorem azf {a:Act} {w:World} {l:Nat} {d:Option Tmp} {x:Operand} {xs:Array Operand} {ts:Array TypeId} {vs:List Value} (hf:a.eval x=.func (.yield l) #[] #[]) (hxs:xs.toList.map a.eval=vs) :
  (execOp a.eval ⟨d,.call ⟨.value x,xs,ts⟩,ty,ps,af,g⟩).run P w=(Instr.yield l vs.toArray).run P w:=by
 have e:xs.map a.eval=vs.toArray:=by apply Array.ext'; rw [Array.toList_map,hxs]
 simp only [execOp,resolve,e,hf,Deferred.ofValue]
 rw [aai (a:=({ target:=.fn (.yield l) #[],args:=#[]++vs.toArray }:Deferred)) (w':=w) rfl]
 simp [invoke]
theorem ayN {ops:Array Oper} {n:Nat} {R:abn} {R':Bool→abn} {L1 L2:List aak} {rest:List Oper} {l:Nat} {d:Option Tmp} {x:Operand} {xs:List Operand} {ts:Array TypeId} {vs:List Value} (hx:EvalR R x (.func (.yield l) #[] #[])) (hxs:EvalRs R xs vs)
  (h:∀ w,Cls B W L w→YieldAt Fence.wide 0 P l vs.toArray w fun e w' =>(e=.returned (.bool true)∧Cls B W L1 w')∨(e=.returned (.bool false)∧Cls B W L2 w'))
  (hg:aek ops R g true) (hp:∀ c,Put n R d (.bool c) (R' c)) (k1:RT none P ops Q n B W rest (R' true) L1) (k2:RT none P ops Q n B W rest (R' false) L2):RT none P ops Q n B W (⟨d,.call ⟨.value x,xs.toArray,ts⟩,ty,ps,af,g⟩::rest) R L:=fun a w s =>by
 unfold wpListIn
 rw [if_pos (hg.spec s.regs)]
 refine ⟨fun _ _ =>trivial,?_⟩
 obtain ⟨fn,tmps,assign,body,hy,hR⟩:=h w s.cls
 have hr:=(azf (P:=P) (w:=w) (d:=d) (ts:=ts) (ty:=ty) (ps:=ps) (af:=af) (g:=g) (hx.eval s.regs) (by simpa using hxs.eval s.regs)).trans hy
 have hs:Oper.semAt none a.eval ⟨d,.call ⟨.value x,xs.toArray,ts⟩,ty,ps,af,g⟩=execOp a.eval ⟨d,.call ⟨.value x,xs.toArray,ts⟩,ty,ps,af,g⟩:=aor (P:=P) (w:=w) (fun d w' e =>by rw [hr] at e; cases e) (fun x w' e =>by rw [hr] at e; cases e)
 show Oper.uponIn (rf none) 0 P _ a _ _ ((Oper.semAt none a.eval _).run P w)
 rw [hs,hr]
 refine ⟨fun e =>(by cases e),hR.mono ?_⟩
 rintro e w' (⟨rfl,hc⟩ | ⟨rfl,hc⟩)
 ·exact k1 _ _ (hc.st (hp true a s.regs))
 ·exact k2 _ _ (hc.st (hp false a s.regs))
theorem avz {f:FuncId} {fn:Func} {c:Code} {args:Array Value} {post:Ending→World→Prop} (hf:P.funcs[f]?=some fn) (hb:fn.body=some c) {m:Nat} (hn:fn.ntmps=m) (hle:args.size≤m) {R:abn} (hR:(args.toList.zipIdx.map fun p =>(p.2,p.1))=R) {k:Nat} {w:World} (hw:Cls B W L w)
  (h:CT none P (bodyPost P fn post) m B W c R L):CallsIn Fence.wide k P f args w post :=
 callsIn_wide.2 (calls_of_wp hf hb (wpIn_wide (n:=0).1 (h _ w (hw.st ⟨by simp [hn]; omega,rfl,fun p hp =>by
  subst hR
  obtain ⟨q,hq,rfl⟩:=List.mem_map.1 hp
  obtain ⟨i,hi⟩:=List.mem_iff_getElem?.1 hq
  simp only [List.getElem?_zipIdx,Option.map_eq_some_iff] at hi
  obtain ⟨u,hu,rfl⟩:=hi
  have hi':i<args.size:=by
   have:=(List.getElem?_eq_some_iff.1 hu).1; simpa using this
  simp only [Nat.zero_add]
  rw [Array.getElem?_append_left hi']
  simpa using hu⟩))))
theorem ayQ {A:Option Addr} {m c k m':Nat} {vs us:List Value} (hk:k≤m) (hm:m'=m-k) (hu:us=vs.drop k):Ent (abA A m c 1 vs::L) (abA (if c=k then A else A.map fun a =>a.add (k*1)) m' (c-k) 1 us::L):=by
 subst hm hu
 refine Ent.cons (fun h =>?_) Ent.refl
 rintro ⟨h1,h2,h3,h4⟩
 refine ⟨by rw [List.length_drop]; omega,by omega,by omega,?_⟩
 by_cases hc:c=k
 ·subst hc
  rcases h4 with ⟨e1,e2⟩ | ⟨b,o,sp,e1,e2,p⟩
  ·exact .inl ⟨by rw [if_pos rfl,e1],by omega⟩
  ·refine .inr ⟨b,o,[],by rw [if_pos rfl,e1],by simp,?_⟩
   rw [List.drop_eq_nil_of_le (by omega)]
   intro i v hi; simp at hi
 ·rcases h4 with ⟨e1,e2⟩ | ⟨b,o,sp,e1,e2,p⟩
  ·omega
  ·refine .inr ⟨b,o+k*1,sp,by rw [if_neg hc,e1]; simp [Addr.add],by omega,?_⟩
   intro i v hi
   have:=p (k+i) v (by
    rw [← hi,← List.getElem?_drop,List.drop_append_of_le_length (by omega)])
   rwa [show o+(k+i)=o+k*1+i by omega] at this
theorem ajB {L1 L2:List aak} {F:aak} {w:World} (h:Cls B W (L1++[aic L2,F]) w):Cls B W (L1++L2++[F]) w:=by
 have h1:Cls B W ((L1++[F])++[aic L2]) w:=h.perm (by
  rw [List.append_assoc]; exact List.Perm.append_left _ (List.Perm.swap ..))
 exact (ah9 h1).perm (by
  rw [List.append_assoc,List.append_assoc]; exact List.Perm.append_left _ List.perm_append_comm)
theorem aoY {L1 L2:List aak} {F:aak} {w:World} (h:Cls B W (L1++L2++[F]) w):Cls B W (L1++[aic L2,F]) w:=by
 have h1:Cls B W ((L1++[F])++L2) w:=h.perm (by
  rw [List.append_assoc,List.append_assoc]; exact List.Perm.append_left _ List.perm_append_comm)
 exact (aoZ h1).perm (by
  rw [List.append_assoc]; exact List.Perm.append_left _ (List.Perm.swap ..))
theorem axu {fn:Func} {rs:List ResultVar} {vs:List Value} {n:Nat} {R:abn} {post:Ending→World→Prop} (hfn:fn.results.toList=rs) (h:ResR P R L rs vs) (hp:∀ w,Cls B W L w→post (.returned (abN vs)) w):ET (bodyPost P fn post) n B W .ret R L:=fun _ w s =>
 bodyPost_ret (h.run s hfn) s.regs.defers (hp w s.cls)
theorem auQ {fn:Func} {rs:List ResultVar} {vs:List Value} {n:Nat} {R:abn} {post:Ending→World→Prop} (hfn:fn.results.toList=rs) (h:ResR P R L rs vs) (hp:∀ w,Cls B W L w→post (.returned (abN vs)) w):ET (bodyPost P fn post) n B W .normal R L:=fun _ w s =>
 ⟨s.regs.defers,_,h.run s hfn,hp w s.cls⟩
section
variable {o:Oper} {ops:Array Oper} {n:Nat} {R R':abn} {v:Value} {rest:List Oper}
def CTd (P:Program) (Q:Exit→Act→World→Prop) (n B:Nat) (W:World) (ds:List Deferred) (c:Code) (R:abn) (L:List aak):Prop:=∀ a w,Sta n B W R L a w→c.wpIn (rf none) 0 P Q { a with defers:=ds } w
def RTd (P:Program) (ops:Array Oper) (Q:Exit→Act→World→Prop) (n B:Nat) (W:World) (ds:List Deferred) (l:List Oper) (R:abn) (L:List aak):Prop:=∀ a w,Sta n B W R L a w→wpListIn (rf none) 0 P ops Q l { a with defers:=ds } w
theorem aCB {ds:List Deferred} {x y:Code} (h:CTd P (Exit.then (y.wpIn (rf none) 0 P Q) Q) n B W ds x R L):CTd P Q n B W ds (.seq x y) R L:=fun a w s =>wpIn_seq (h a w s)
theorem auV {ds:List Deferred} {id:Nat} {l:List Oper} (h:RTd P l.toArray Q n B W ds l R L):CTd P Q n B W ds (.region id l.toArray false) R L:=fun a w s =>wpIn_region_lit (h a w s)
theorem aDs {ds:List Deferred} {X:Type} {v:X→Value} {L':X→List aak} {R':X→abn} (h:OT P n B W o R L v L') (hg:aek ops R o.guard true) (hp:∀ x,Put n R o.dst (v x) (R' x))
  (K:∀ x,RTd P ops Q n B W ds rest (R' x) (L' x)):RTd P ops Q n B W ds (o::rest) R L:=fun a w s =>by
 unfold wpListIn
 rw [if_pos (hg.spec s.regs)]
 refine afX (a:={ a with defers:=ds }) (h a w s) fun x w' hw' =>?_
 have:=K x _ _ (hw'.st (hp x a s.regs))
 have e:({ a with defers:=ds }:Act).put o.dst (v x)={ (a.put o.dst (v x)) with defers:=ds }:=by cases o.dst<;>rfl
 rw [e]; exact this
theorem ayM {ds:List Deferred} {y:Code} (h:CTd P Q n B W ds y R L):RTd P ops (Exit.then (y.wpIn (rf none) 0 P Q) Q) n B W ds [] R L:=fun a w s =>h a w s
theorem aCC {fn:Func} {rs:List ResultVar} {vs:List Value} {D:Nat} {post:Ending→World→Prop} (hfn:fn.results.toList=rs) (h:ResR P R L rs vs) (hp:∀ w,Cls B W L w→post (.returned (abN vs)) w) :
  CTd P (bodyPostM (rf none) 0 P fn post) n B W [{ target:=.collected D,args:=#[] }] .ret R (aeo D (.deferred (some []))::L):=fun a w s =>by
 refine wpIn_ret ?_
 have hD:=s.sat.obj
 have hc:Cls B W L (w.putObj D (.deferred none)):=(s.cls.putObj (o':=.deferred none) rfl).ent Ent.drop
 refine ⟨by simp,.inl ⟨_,_,rfl,run_takeDeferred hD.2.1,?_⟩⟩
 exact ⟨_,h.run (hc.st s.regs) hfn,hp _ hc⟩
theorem ayt {fn:Func} {rs:List ResultVar} {vs:List Value} {D:Nat} {post:Ending→World→Prop} (hfn:fn.results.toList=rs) (h:ResR P R L rs vs) (hp:∀ w,Cls B W L w→post (.returned (abN vs)) w) {a:Act} {w:World} (r:Regs n a R) (hw:Cls B W (aeo D (.deferred (some []))::L) w) :
  bodyPostM (rf none) 0 P fn post .ret { a with defers:=[{ target:=.collected D,args:=#[] }] } w:=by
 have hD:=hw.2.2.obj
 have hc:Cls B W L (w.putObj D (.deferred none)):=(hw.putObj (o':=.deferred none) rfl).ent Ent.drop
 refine ⟨by simp,.inl ⟨_,_,rfl,run_takeDeferred hD.2.1,?_⟩⟩
 exact ⟨_,h.run (hc.st r) hfn,hp _ hc⟩
theorem arO {f:FuncId} {fn:Func} {c:Code} {args:Array Value} {post:Ending→World→Prop} (hf:P.funcs[f]?=some fn) (hb:fn.body=some c) {m:Nat} (hn:fn.ntmps=m) (hle:args.size≤m) {R:abn} (hR:(args.toList.zipIdx.map fun p =>(p.2,p.1))=R) {w:World} (hw:Cls B W L w)
  (h:CT none P (bodyPostM (rf none) 0 P fn post) m B W c R L):Calls P f args w post :=
 (callsIn_wide (n:=0)).1 (callsIn_of_wp_marks hf hb trivial (h _ w (hw.st ⟨by simp [hn]; omega,rfl,fun p hp =>by
  subst hR
  obtain ⟨q,hq,rfl⟩:=List.mem_map.1 hp
  obtain ⟨i,hi⟩:=List.mem_iff_getElem?.1 hq
  simp only [List.getElem?_zipIdx,Option.map_eq_some_iff] at hi
  obtain ⟨u,hu,rfl⟩:=hi
  have hi':i<args.size:=by
   have:=(List.getElem?_eq_some_iff.1 hu).1; simpa using this
  simp only [Nat.zero_add]
  rw [Array.getElem?_append_left hi']
  simpa using hu⟩)) rfl)
theorem au4 {id l:Nat} {K:Act→World→Prop} (h:OP P n o R v) (hg:o.guard=none) (hp:Put n R o.dst v R') {a:Act} {w:World} (ha:Regs n a R) (hK:∀ a',Regs n a' R'→K a' w) :
  (Code.region id [o].toArray false).wpIn (rf (some l)) 0 P (Exit.then K fun _ _ _ =>False) a w:=by
 refine wpIn_region_lit ?_
 unfold wpListIn
 rw [if_pos (by simp [Region.wanted,hg])]
 refine afX (X:=Unit) (v:=fun _ =>v) (C:=fun _ w' =>w'=w) ?_ fun _ w' hw' =>?_
 ·rw [h a w ha]; exact ⟨(),rfl,rfl⟩
 ·subst hw'; exact hK _ (hp a ha)
end
end
def aEx (n:Nat) (w u:World):Prop:=∀ b o v,n≤b→w.cell? ⟨b,o,none⟩=some v→u.cell? ⟨b,o,none⟩=some v
theorem aEx.refl (n:Nat) (w:World):aEx n w w:=fun _ _ _ _ h =>h
def aAZ (w:World) (h:Hp):Prop:=∀ b o x,h b o=some x→aeQ w b o x
def aFd (Φ:World→Prop):aak:=fun h =>∀ w,aAZ w h→Φ w
section
variable {P:Program} {n B:Nat} {W:World} {R R':abn} {L L' M:List aak} {v u:Value} {x y z:Operand} {w w':World} {Φ:World→Prop}
 {d:Option Tmp} {ty:TypeId} {ps:String} {af:Array Edge} {g:Option (Nat×Bool)} {T T':TypeId}
theorem Sat.held (s:Sat B w (aFd Φ::L)):Φ w:=by
 obtain ⟨h,H,k1,k2,a,e,hA,hL⟩:=s
 exact hA w fun b o x hx =>(H b o x (by rw [e]; unfold acI; rw [hx])).2
end
theorem ano {u:World} {b o:Nat} {v:Value} (h:u.cell? ⟨b,o,none⟩=some v):b<u.heap.size:=by
 rcases Nat.lt_or_ge b u.heap.size with h1 | h1
 ·exact h1
 ·have e:=Array.getElem?_eq_none h1
  unfold World.cell? at h; rw [e] at h; cases h
def SE (L L':List aak):Prop:=∀ B w,Sat B w L→Sat B w L'
def afr (Φ:World→Prop):aak:=fun h =>∃ k:Hp,(∀ b o x,k b o=some x→(∃ v,x=.look v)∧h b o=some x)∧∀ w,aAZ w k→Φ w
section
variable {r:Option Nat} {P:Program} {ops:Array Oper} {Q:Exit→Act→World→Prop} {n B:Nat} {W:World} {R R':abn} {L L' L'' M:List aak} {Φ Ψ:World→Prop} {v:Value} {x y z:Operand}
 {d:Option Tmp} {ty:TypeId} {ps:String} {af:Array Edge} {g:Option (Nat×Bool)} {T T':TypeId}
theorem SE.of (e:Ent L L'):SE L L':=fun _ _ s =>s.imp e
theorem SE.trans (h:SE L L') (k:SE L' L''):SE L L'':=fun B w s =>k B w (h B w s)
def exL {X:Type} (N:X→List aak):aak:=fun h =>∃ x,ab0 (N x) h
theorem afy {X:Type} {N:X→List aak} {w:World} (s:Sat B w (exL N::L)):∃ x,Sat B w (N x++L):=by
 obtain ⟨h,H,k1,k2,a,e,⟨x,hA⟩,hL⟩:=s
 exact ⟨x,h,H,aau.2 ⟨k1,k2,a,e,hA,hL⟩⟩
theorem ak5:Ent (afr Φ::L) (afr Φ::afr Φ::L):=fun h s =>by
 obtain ⟨k1,k2,a,e,⟨k,hk,hΦ⟩,hL⟩:=s
 refine ⟨k,h,fun b o =>?_,?_,⟨k,fun b o x hx =>⟨(hk b o x hx).1,hx⟩,hΦ⟩,⟨k1,k2,a,e,⟨k,hk,hΦ⟩,hL⟩⟩
 ·cases hkb:k b o with
  | none =>exact .inl rfl
  | some x =>
   obtain ⟨⟨v,rfl⟩,h2⟩:=hk b o x hkb
   refine .inr (.inr ⟨v,rfl,?_⟩)
   rw [e]; unfold acI; rw [h2]
 ·funext b o
  unfold acI
  cases hkb:k b o with
  | none =>rfl
  | some x =>
   obtain ⟨⟨v,rfl⟩,h2⟩:=hk b o x hkb
   rw [e]; unfold acI; rw [h2]
theorem adS (f:∀ u,Φ u→Ψ u):∀ h,afr Φ h→afr Ψ h:=fun _ ⟨k,hk,hΦ⟩ =>⟨k,hk,fun w hw =>f w (hΦ w hw)⟩
theorem ak4 {w:World} (s:Sat B w L) (h:afr Φ∈L):Φ w:=by
 obtain ⟨l',p⟩:=Pick.of_mem h
 obtain ⟨k,H,k1,k2,a,e,⟨k',hk,hΦ⟩,hL⟩:=s.perm p.perm
 exact hΦ w fun b o x hx =>(H b o x (by rw [e]; unfold acI; rw [(hk b o x hx).2])).2
theorem awP {h k:Hp} (a:apart h k) (h1:afr Φ h) (h2:afr Ψ k):afr (fun u =>Φ u∧Ψ u) (acI h k):=by
 obtain ⟨k1,q1,p1⟩:=h1
 obtain ⟨k2,q2,p2⟩:=h2
 refine ⟨acI k1 k2,fun b o x hx =>?_,fun w hw =>⟨p1 w fun b o x hx =>hw b o x (by unfold acI; rw [hx]),p2 w fun b o x hx =>hw b o x ?_⟩⟩
 ·unfold acI at hx ⊢
  cases e1:k1 b o with
  | some y =>
   rw [e1] at hx; obtain rfl:=Option.some.inj hx
   obtain ⟨g1,g2⟩:=q1 b o y e1
   exact ⟨g1,by rw [g2]⟩
  | none =>
   rw [e1] at hx
   obtain ⟨g1,g2⟩:=q2 b o x hx
   refine ⟨g1,?_⟩
   rcases a b o with e | e | ⟨v,e3,e4⟩
   ·rw [e]; exact g2
   ·rw [e] at g2; cases g2
   ·rw [e3]; rw [e4] at g2; exact g2
 ·unfold acI
  cases e1:k1 b o with
  | none =>exact hx
  | some y =>
   obtain ⟨⟨v,rfl⟩,g2⟩:=q1 b o y e1
   obtain ⟨⟨u,rfl⟩,g4⟩:=q2 b o x hx
   rcases a b o with e | e | ⟨v',e3,e4⟩
   ·rw [e] at g2; cases g2
   ·rw [e] at g4; cases g4
   ·rw [e3] at g2; rw [e4] at g4
    injection g2 with g2; injection g2 with g2
    injection g4 with g4; injection g4 with g4
    rw [← g2,← g4]
theorem atb:Ent (afr Φ::afr Ψ::L) (afr (fun u =>Φ u∧Ψ u)::L):=fun h s =>by
 obtain ⟨k1,k2,a,e,h1,k3,k4,a',e',h2,hL⟩:=s
 subst e'
 have a1:=(abx a').1 (aaF a)
 exact ⟨acI k1 k3,k4,(abx (aaF a1.1)).2 ⟨aaF a1.2,a'⟩,by rw [e,acW],awP (aaF a1.1) h1 h2,hL⟩
theorem alP:Ent L (afr (fun _ =>True)::L):=fun h s =>⟨fun _ _ =>none,h,fun _ _ =>.inl rfl,by funext x y; rfl,⟨fun _ _ =>none,(fun _ _ _ (e:none=some _) =>by cases e),fun _ _ =>trivial⟩,s⟩
theorem arP {b o:Nat} {vs:List Value}:SE (pts b o vs::L) (afr (fun u =>∀ i v,vs[i]?=some v→u.cell? ⟨b,o+i,none⟩=some v)::L):=fun B w s =>by
 obtain ⟨h,H,k1,k2,a,e,hA,hL⟩:=s
 let f:Option Item→Option Item:=fun x =>match x with | some (.cell v) =>some (.look v) | y =>y
 have hin:∀ i v,vs[i]?=some v→k1 b (o+i)=some (.cell v):=hA
 refine ⟨acI (fun b o =>f (k1 b o)) k2,?_,_,k2,?_,rfl,⟨fun b' o' =>if b'=b∧o≤o' then (match vs[o'-o]? with | some v =>some (.look v) | none =>none) else none,?_,?_⟩,hL⟩
 ·intro b' o' x hx
  unfold acI at hx
  simp only [] at hx
  cases e1:k1 b' o' with
  | none =>
   rw [e1] at hx
   exact H b' o' x (by rw [e]; unfold acI; rw [e1]; exact hx)
  | some y =>
   have h1:=H b' o' y (by rw [e]; unfold acI; rw [e1])
   rw [e1] at hx
   cases y with
   | cell v =>obtain rfl:=Option.some.inj hx; exact ⟨.inr trivial,h1.2.1⟩
   | obj v =>obtain rfl:=Option.some.inj hx; exact h1
   | look v =>obtain rfl:=Option.some.inj hx; exact h1
 ·intro b' o'
  rcases a b' o' with e1 | e1 | ⟨v,e1,e2⟩
  ·left; simp only [e1]; rfl
  ·exact .inr (.inl e1)
  ·right; right; exact ⟨v,by simp only [e1]; rfl,e2⟩
 ·intro b' o' x hx
  simp only [] at hx
  by_cases hc:b'=b∧o≤o'
  ·rw [if_pos hc] at hx
   obtain ⟨rfl,hle⟩:=hc
   cases hv:vs[o'-o]? with
   | none =>rw [hv] at hx; cases hx
   | some v =>
    rw [hv] at hx
    obtain rfl:=Option.some.inj hx
    have:=hin _ _ hv
    rw [Nat.add_sub_cancel' hle] at this
    exact ⟨⟨v,rfl⟩,by simp only [this]; rfl⟩
  ·rw [if_neg hc] at hx; cases hx
 ·intro u hu i v hi
  have:=hu b (o+i) (.look v) (by simp [hi])
  exact this
def roS {α:Type} (enc:α→List Value) (sz:Nat) (A:Option Addr) (c:Nat) (xs:List α):aak:=afr fun u =>Sl enc sz u u.heap.size A xs∧xs.length≤c
section
variable {α:Type} {enc:α→List Value} {sz:Nat} {A:Option Addr} {c:Nat} {xs:List α}
theorem atq {α:Type} {enc:α→List Value} {sz:Nat} (henc:∀ x,(enc x).length=sz):∀ (xs:List α) (i:Nat) (x:α),xs[i]?=some x→∀ (j:Nat) y,(enc x)[j]?=some y→(xs.flatMap enc)[i*sz+j]?=some y
 | [],i,x,h,_,_,_ =>by cases h
 | z::xs,0,x,h,j,y,hj =>by
  simp at h; subst h
  rw [List.flatMap_cons,Nat.zero_mul,Nat.zero_add,List.getElem?_append_left (List.getElem?_eq_some_iff.1 hj).1]; exact hj
 | z::xs,i+1,x,h,j,y,hj =>by
  rw [List.flatMap_cons,List.getElem?_append_right (by rw [henc,Nat.add_mul]; omega)]
  have:=atq henc xs i x (by simpa using h) j y hj
  rw [henc,← this]; congr 1; rw [Nat.add_mul]; omega
theorem aAv {L:List aak} {A:Option Addr} {c:Nat}:Ent L (roS enc sz A c ([]:List α)::L):=alP.trans (Ent.cons (adS fun _ _ =>⟨Sl.nil,Nat.zero_le _⟩) Ent.refl)
theorem apA (hsz:0<sz) (henc:∀ x,(enc x).length=sz) {m:Nat} (hm:xs.length=m):SE (abA A m c sz (xs.flatMap enc)::L) (roS enc sz A c xs::L):=fun B w s =>by
 subst hm
 obtain ⟨h1,h2,h3,h4⟩:=acF s (List.mem_cons_self ..)
 cases xs with
 | nil =>exact aAv.sat s.drop
 | cons x xs =>
  obtain ⟨h,H,k1,k2,a,e,⟨r1,r2,r3,r4⟩,hL⟩:=s
  rcases r4 with ⟨_,r4⟩ | ⟨b,o,spare,rfl,rs,rp⟩
  ·simp at r2; omega
  ·have s':Sat B w (pts b o ((x::xs).flatMap enc)::L):=⟨h,H,k1,k2,a,e,(ajY rp).1,hL⟩
   have s2:=arP B w s'
   have hlen:(x::xs).length≤9223372036854775807:=by unfold maxLen at r3; omega
   refine s2.imp fun h =>aaS (adS fun u hu =>⟨⟨hlen,fun _ =>⟨b,o,rfl,?_,?_⟩⟩,r2⟩) 
   ·cases hx:enc x with
    | nil =>have:=henc x; rw [hx] at this; simp at this; omega
    | cons y ys =>exact ano (hu 0 y (by rw [List.flatMap_cons,hx]; rfl))
   ·intro i z hz j v hj
    have:=hu _ _ (atq henc (x::xs) i z hz j v hj)
    rw [Nat.add_assoc]; exact this
theorem anU {w:World} (s:Sat B w L) (h:roS enc sz A c xs∈L):Sl enc sz w w.heap.size A xs∧xs.length≤c:=ak4 s h
theorem avP:Ent (roS enc sz A c xs::L) (roS enc sz A c xs::roS enc sz A c xs::L):=ak5
end
end
theorem ay9 {b o:Nat} {xs ys:List Value} {h k:Hp} (p1:pts b o xs h) (p2:pts b (o+xs.length) ys k) (a:apart h k):pts b o (xs++ys) (acI h k):=fun i v hi =>by
 unfold acI
 rcases Nat.lt_or_ge i xs.length with h1 | h1
 ·rw [List.getElem?_append_left h1] at hi
  rw [p1 i v hi]
 ·rw [List.getElem?_append_right h1] at hi
  have:=p2 _ v hi
  rw [Nat.add_assoc,Nat.add_sub_cancel' h1] at this
  rcases a b (o+i) with e | e | ⟨u,_,e⟩
  ·rw [e]; exact this
  ·rw [e] at this; cases this
  ·rw [e] at this; cases this
theorem awl {b o:Nat} {xs ys:List Value} {h:Hp} (p:pts b o (xs++ys) h):∃ h1 h2,apart h1 h2∧h=acI h1 h2∧pts b o xs h1∧pts b (o+xs.length) ys h2:=by
 have p2:=ajY p
 refine ⟨fun b' o' =>if b'=b∧o'<o+xs.length then h b' o' else none,fun b' o' =>if b'=b∧o'<o+xs.length then none else h b' o',fun b' o' =>?_,?_,fun i v hi =>?_,fun i v hi =>?_⟩
 ·by_cases hc:b'=b∧o'<o+xs.length
  ·simp only [if_pos hc]; exact .inr (.inl rfl)
  ·simp only [if_neg hc]; exact .inl rfl
 ·funext b' o'
  unfold acI
  by_cases hc:b'=b∧o'<o+xs.length
  ·simp only [if_pos hc]; cases h b' o'<;>rfl
  ·simp only [if_neg hc]
 ·have hlt:=(List.getElem?_eq_some_iff.1 hi).1
  simp only [true_and]
  rw [if_pos (by omega)]
  exact p2.1 i v hi
 ·have:¬ (b=b∧o+xs.length+i<o+xs.length):=by omega
  show (if b=b∧o+xs.length+i<o+xs.length then none else h b (o+xs.length+i))=_
  rw [if_neg this]
  exact p2.2 i v hi
theorem aiC {b o:Nat} {xs ys:List Value} {L:List aak}:Ent (pts b o (xs++ys)::L) (pts b o xs::pts b (o+xs.length) ys::L):=fun h s =>by
 obtain ⟨k1,k2,a,e,hA,hL⟩:=s
 obtain ⟨h1,h2,a',e',p1,p2⟩:=awl hA
 subst e'
 have a2:=(abx a').1 a
 exact ⟨h1,acI h2 k2,aaF ((abx a2.2).2 ⟨aaF a',aaF a2.1⟩),by rw [e,acW],p1,h2,k2,a2.2,rfl,p2,hL⟩
theorem ajX {b o o':Nat} {xs ys:List Value} {L:List aak} (ho:o+xs.length=o'):Ent (pts b o xs::pts b o' ys::L) (pts b o (xs++ys)::L):=fun h s =>by
 subst ho
 obtain ⟨k1,k2,a,e,hA,k3,k4,a',e',hB,hL⟩:=s
 subst e'
 have a1:=(abx a').1 (aaF a)
 exact ⟨acI k1 k3,k4,(abx (aaF a1.1)).2 ⟨aaF a1.2,a'⟩,by rw [e,acW],ay9 hA hB (aaF a1.1),hL⟩
section
variable {α:Type} (enc:α→Option Addr→Nat→List Value) (lst:α→List Int) (sz:Nat)
end
section
variable {α:Type} {enc:α→Option Addr→Nat→List Value} {lst:α→List Int} {sz:Nat}
variable {r:Option Nat} {P:Program} {ops:Array Oper} {Q:Exit→Act→World→Prop} {n B:Nat} {W:World} {R R':abn} {L L' M:List aak} {v:Value} {x y z:Operand}
 {d:Option Tmp} {ty:TypeId} {ps:String} {af:Array Edge} {g:Option (Nat×Bool)} {T T':TypeId} {A:Option Addr} {c i:Nat} {xs:List α}
end
structure AccV where
 kind:Int
 cell:Int
 old:Int
 new:Int
 deriving DecidableEq,Inhabited
structure MemV where
 cells:List Int
 last:AccV
 count:Int
 deriving DecidableEq,Inhabited
structure RecV where
 prog:Int
 parent:Int
 pc:Int
 left:Int
 waiting:Int
 kids:List Int
 started:Bool
 deriving DecidableEq,Inhabited
structure QV where
 top:Int
 bottom:Int
 ring:Int
 cap:Int
 deriving DecidableEq,Inhabited
structure FrV where
 kind:Int
 line:Int
 q:QV
 a:Int
 b:Int
 d:Int
 i:Int
 j:Int
 n:Int
 t:Int
 u:Int
 v:Int
 w:Int
 x:Int
 l:List Int
 deriving DecidableEq,Inhabited
structure ResV where
 done:Bool
 code:Int
 value:Int
 deriving DecidableEq,Inhabited
structure EntV where
 kind:Int
 value:Int
 deriving DecidableEq,Inhabited
deriving instance Inhabited for Ins
deriving instance Inhabited for Sub
deriving instance Inhabited for Ev
def EntV.enc (x:EntV):List Value:=[.int .i64 x.kind,.int .i64 x.value]
instance : Inhabited Addr := ⟨⟨0,0,none⟩⟩
@[reducible] def wi (a : Int) : Int := IntKind.i64.wrap a
@[reducible] def wu (a : Int) : Int := IntKind.u64.wrap a
@[reducible] def orU (a b : Int) : Int := IntKind.u64.wrap (BitVec.ofInt IntKind.u64.bits a ||| BitVec.ofInt IntKind.u64.bits b).toNat
@[reducible] def aFL (a b : Int) : Int := IntKind.u64.wrap (BitVec.ofInt IntKind.u64.bits a &&& BitVec.ofInt IntKind.u64.bits b).toNat
@[reducible] def az1 (a : Int) : Int := IntKind.u64.wrap (BitVec.ofInt IntKind.u64.bits (if IntKind.u64.signed then -1 else IntKind.u64.max) ^^^ BitVec.ofInt IntKind.u64.bits a).toNat
def at_ {α:Type} [Inhabited α] (xs:List α) (i:Int):α:=(xs[i.toNat]?).getD default
section
variable {r:Option Nat} {P:Program} {ops:Array Oper} {Q:Exit→Act→World→Prop} {n B:Nat} {W:World} {R R':abn} {L L' M:List aak} {v:Value} {x y z:Operand}
 {d:Option Tmp} {ty:TypeId} {ps:String} {af:Array Edge} {g:Option (Nat×Bool)} {T T':TypeId} {α:Type} {enc:α→List Value} {sz:Nat} {A:Option Addr} {c:Nat} {xs:List α}
end
inductive Fl (T:Nat→Type) (M:Type) where
 | i (k:IntKind) (x:Int)
 | b (x:Bool)
 | c (v:Value)
 | own (c:Nat) (x:T c)
 | row (c:Nat) (xs:List (T c))
 | ro (c:Nat) (xs:List (T c))
 | rr (c:Nat) (xss:List (List (T c)))
 | mach (m:M)
 | o
def aiq {T:Nat→Type} {M:Type}:List (Fl T M)→Bool
 | [] =>true
 | f::l =>match f with
  | .i .. =>aiq l
  | .b .. =>aiq l
  | _ =>false
structure KT where
 T:Nat→Type
 M:Type
 df:(c:Nat)→T c
 sz:Nat→Nat
 vw:(c:Nat)→T c→List (Fl T M)
 bk:(c:Nat)→List (Fl T M)→Option (T c)
 bk_ok:∀ c l x,bk c l=some x→vw c x=l
 sz_ok:∀ c x,(vw c x).length=sz c
 pl:Nat→Bool
 pl_ok:∀ c,pl c=true→∀ x,aiq (vw c x)=true
 nc:∀ c x,∀ f∈vw c x,∀ u,f≠.c u
 tid:Nat→TypeId
 tk:TypeId→Option Nat
 spl:M→Option (Σ c:Nat,T c)
 nilM:M
 nilM_ok:spl nilM=none
 mkM:(c:Nat)→T c→Option M
 mkM_ok:∀ c x m,mkM c x=some m→spl m=some ⟨c,x⟩
 kd:TypeId→Option Nat
 kd_ok:∀ t c,kd t=some c→tid c=t
 ls:(c c':Nat)→Option (PLift (T c'=List (T c)))
 ls_ok:∀ c c' h,ls c c'=some h→∀ x,vw c' x=[.ro c (h.down▸x)]∨(vw c' x=[.row c (h.down▸x)]∧pl c=true∧0<sz c)
section
variable {T:Nat→Type} {M:Type}
def flV:Fl T M→Value
 | .i k x =>.int k x
 | .b x =>.bool x
 | .c v =>v
 | _ =>undef
end
def rrS {α:Type} (enc:α→List Value) (sz:Nat) (A:Option Addr) (c:Nat) (xss:List (List α)):aak:=fun h =>∃ ps:List (Option Addr×Nat),afr (fun u =>(xss.length≤9223372036854775807∧xss.length≤c) ∧
 ∀ (i:Nat) (xs:List α),xss[i]?=some xs→∃ a,ps[i]?=some a∧(Sl enc sz u u.heap.size a.1 xs∧xs.length≤a.2)∧∃ b o,A=some ⟨b,o,none⟩∧b<u.heap.size∧u.cell? ⟨b,o+i,none⟩=some (.slice a.1 xs.length a.2)) h
def akP (p:Prop):aak:=fun _ =>p
theorem al6 {p:Prop} {L:List aak} (h:p):Ent L (akP p::L):=fun k s =>⟨fun _ _ =>none,k,fun _ _ =>.inl rfl,by funext x y; rfl,h,s⟩
section
variable (K:KT)
abbrev KT.F:=Fl K.T K.M
def aex (c:Nat) (x:K.T c):List Value:=(K.vw c x).map flV
abbrev ObS:=(c:Nat)→K.T c→Nat×Nat→aak
abbrev RwS:=(c:Nat)→List (K.T c)→Option Addr→Nat→aak
def pcW (ob:ObS K) (rw_:RwS K):Fl K.T K.M→Value→aak
 | .i k x,v =>akP (v=.int k x)
 | .b x,v =>akP (v=.bool x)
 | .c u,v =>akP (v=u)
 | .own c x,v =>fun h =>∃ q,v=.pointer (some ⟨q.1,q.2,none⟩)∧ob c x q h
 | .row c xs,v =>fun h =>∃ A cap,v=.slice A xs.length cap∧rw_ c xs A cap h
 | .ro c xs,v =>fun h =>∃ A cap,v=.slice A xs.length cap∧roS (aex K c) (K.sz c) A cap xs h
 | .rr c xss,v =>fun h =>∃ A cap,v=.slice A xss.length cap∧rrS (aex K c) (K.sz c) A cap xss h
 | .mach m,v =>fun h =>match K.spl m with
  | none =>v=.nilIface
  | some p =>∃ q,v=.iface (K.tid p.1) (.pointer (some ⟨q.1,q.2,none⟩))∧ob p.1 p.2 q h
 | .o,v =>akP (acp v=true)
end
def fsS {F:Type} (pc:F→Value→aak):List F→List Value→List aak
 | [],[] =>[]
 | f::fs,v::vs =>pc f v::fsS pc fs vs
 | _,_ =>[fun _ =>False]
section
variable (K:KT)
def obW (pc:Fl K.T K.M→Value→aak):ObS K:=fun c x q h =>∃ vs,ab0 (pts q.1 q.2 vs::fsS pc (K.vw c x) vs) h
def ab1 (pc:Fl K.T K.M→Value→aak) (c:Nat):List (K.T c)→List (List Value)→List aak
 | [],[] =>[]
 | x::xs,vs::vss =>fsS pc (K.vw c x) vs++ab1 pc c xs vss
 | _,_ =>[fun _ =>False]
def rwW (pc:Fl K.T K.M→Value→aak):RwS K:=fun c xs A cap h =>∃ vss:List (List Value),ab0 (abA A xs.length cap (K.sz c) vss.flatten::ab1 K pc c xs vss) h
def pcN:Nat→Fl K.T K.M→Value→aak
 | 0 =>pcW K (fun _ _ _ _ =>False) (fun _ _ _ _ _ =>False)
 | n+1 =>pcW K (obW K (pcN n)) (rwW K (pcN n))
def pcS (f:Fl K.T K.M) (v:Value):aak:=fun h =>∃ n,pcN K n f v h
def obS:ObS K:=fun c x q h =>∃ n,obW K (pcN K n) c x q h
def rwS:RwS K:=fun c xs A cap h =>∃ n,rwW K (pcN K n) c xs A cap h
end
section
variable {K:KT}
theorem ah6 {F:Type} {pc pc':F→Value→aak} (hm:∀ f v h,pc f v h→pc' f v h):∀ (fs:List F) (vs:List Value) (L:List aak) (h:Hp),ab0 (fsS pc fs vs++L) h→ab0 (fsS pc' fs vs++L) h
 | [],[],_,_,s =>s
 | f::fs,v::vs,L,h,s =>aaS (hm f v) (abO (fun h s =>ah6 hm fs vs L h s) s)
 | [],_::_,_,_,⟨_,_,_,_,hf,_⟩ =>hf.elim
 | _::_,[],_,_,⟨_,_,_,_,hf,_⟩ =>hf.elim
theorem aiU {pc pc':Fl K.T K.M→Value→aak} (hm:∀ f v h,pc f v h→pc' f v h) {c:Nat}:∀ (xs:List (K.T c)) (vss:List (List Value)) (L:List aak) (h:Hp),ab0 (ab1 K pc c xs vss++L) h→ab0 (ab1 K pc' c xs vss++L) h
 | [],[],_,_,s =>s
 | x::xs,vs::vss,L,h,s =>by
  simp only [ab1,List.append_assoc] at s ⊢
  have s1:=ah6 hm _ _ _ h s
  obtain ⟨k1,k2,a,e,h1,h2⟩:=aau.1 s1
  exact aau.2 ⟨k1,k2,a,e,h1,aiU hm xs vss L k2 h2⟩
 | [],_::_,_,_,⟨_,_,_,_,hf,_⟩ =>hf.elim
 | _::_,[],_,_,⟨_,_,_,_,hf,_⟩ =>hf.elim
theorem azl {pc pc':Fl K.T K.M→Value→aak} (hm:∀ f v h,pc f v h→pc' f v h) (c:Nat) (x:K.T c) (q:Nat×Nat) (h:Hp) (s:obW K pc c x q h):obW K pc' c x q h:=by
 obtain ⟨vs,s⟩:=s
 refine ⟨vs,abO (fun k hk =>?_) s⟩
 have:=ah6 hm (K.vw c x) vs [] k (by simpa using hk)
 simpa using this
theorem ayG {pc pc':Fl K.T K.M→Value→aak} (hm:∀ f v h,pc f v h→pc' f v h) (c:Nat) (xs:List (K.T c)) (A:Option Addr) (cap:Nat) (h:Hp) (s:rwW K pc c xs A cap h):rwW K pc' c xs A cap h:=by
 obtain ⟨vs,s⟩:=s
 refine ⟨vs,abO (fun k hk =>?_) s⟩
 have:=aiU hm xs vs [] k (by simpa using hk)
 simpa using this
theorem ak3 {ob ob':ObS K} {rw_ rw':RwS K} (h1:∀ c x q h,ob c x q h→ob' c x q h) (h2:∀ c xs A cap h,rw_ c xs A cap h→rw' c xs A cap h):∀ f v h,pcW K ob rw_ f v h→pcW K ob' rw' f v h:=by
 intro f v h hp
 cases f with
 | i k x =>exact hp
 | b x =>exact hp
 | c u =>exact hp
 | own c x =>obtain ⟨q,e,hq⟩:=hp; exact ⟨q,e,h1 _ _ _ _ hq⟩
 | row c xs =>obtain ⟨A,cap,e,hq⟩:=hp; exact ⟨A,cap,e,h2 _ _ _ _ _ hq⟩
 | ro c xs =>exact hp
 | rr c xss =>exact hp
 | mach m =>
  simp only [pcW] at hp ⊢
  split at hp
  ·exact hp
  ·obtain ⟨q,e',hq⟩:=hp; exact ⟨q,e',h1 _ _ _ _ hq⟩
 | o =>exact hp
theorem aon:∀ (n:Nat) (f:Fl K.T K.M) (v:Value) (h:Hp),pcN K n f v h→pcN K (n+1) f v h
 | 0,f,v,h,hp =>ak3 (fun _ _ _ _ h =>h.elim) (fun _ _ _ _ _ h =>h.elim) f v h hp
 | n+1,f,v,h,hp =>ak3 (azl (aon n)) (ayG (aon n)) f v h hp
theorem as5 {n m:Nat} (hle:n≤m) (f:Fl K.T K.M) (v:Value) (h:Hp) (hp:pcN K n f v h):pcN K m f v h:=by
 induction hle with
 | refl =>exact hp
 | step _ ih =>exact aon _ _ _ _ ih
theorem al3:∀ (fs:List (Fl K.T K.M)) (vs:List Value) (h:Hp),ab0 (fsS (pcS K) fs vs) h→∃ n,ab0 (fsS (pcN K n) fs vs) h
 | [],[],_,s =>⟨0,s⟩
 | f::fs,v::vs,h,⟨k1,k2,a,e,⟨n,hf⟩,hL⟩ =>by
  obtain ⟨m,hm⟩:=al3 fs vs k2 hL
  refine ⟨max n m,k1,k2,a,e,as5 (Nat.le_max_left ..) _ _ _ hf,?_⟩
  have:=ah6 (as5 (K:=K) (Nat.le_max_right n m)) fs vs [] k2 (by simpa using hm)
  simpa using this
 | [],_::_,_,⟨_,_,_,_,hf,_⟩ =>hf.elim
 | _::_,[],_,⟨_,_,_,_,hf,_⟩ =>hf.elim
theorem amV {c:Nat}:∀ (xs:List (K.T c)) (vss:List (List Value)) (h:Hp),ab0 (ab1 K (pcS K) c xs vss) h→∃ n,ab0 (ab1 K (pcN K n) c xs vss) h
 | [],[],_,s =>⟨0,s⟩
 | x::xs,vs::vss,h,s =>by
  obtain ⟨k1,k2,a,e,h1,h2⟩:=aau.1 s
  obtain ⟨n,hn⟩:=al3 _ _ _ h1
  obtain ⟨m,hm⟩:=amV xs vss k2 h2
  refine ⟨max n m,aau.2 ⟨k1,k2,a,e,?_,?_⟩⟩
  ·have:=ah6 (as5 (K:=K) (Nat.le_max_left n m)) (K.vw c x) vs [] k1 (by simpa using hn)
   simpa using this
  ·have:=aiU (as5 (K:=K) (Nat.le_max_right n m)) xs vss [] k2 (by simpa using hm)
   simpa using this
 | [],_::_,_,⟨_,_,_,_,hf,_⟩ =>hf.elim
 | _::_,[],_,⟨_,_,_,_,hf,_⟩ =>hf.elim
theorem aD9 {n:Nat} {fs:List (Fl K.T K.M)} {vs:List Value} {h:Hp} (s:ab0 (fsS (pcN K n) fs vs) h):ab0 (fsS (pcS K) fs vs) h:=by
 have:=ah6 (pc:=pcN K n) (pc':=pcS K) (fun f v h hp =>⟨n,hp⟩) fs vs [] h (by simpa using s)
 simpa using this
theorem aj1 {c:Nat} {x:K.T c} {q:Nat×Nat} {h:Hp}:obS K c x q h↔∃ vs,ab0 (pts q.1 q.2 vs::fsS (pcS K) (K.vw c x) vs) h:=by
 constructor
 ·rintro ⟨n,vs,s⟩
  exact ⟨vs,abO (fun _ =>aD9) s⟩
 ·rintro ⟨vs,k1,k2,a,e,hp,hL⟩
  obtain ⟨n,hn⟩:=al3 _ _ _ hL
  exact ⟨n,vs,k1,k2,a,e,hp,hn⟩
theorem acw {c:Nat} {xs:List (K.T c)} {A:Option Addr} {cap:Nat} {h:Hp}:rwS K c xs A cap h↔∃ vss:List (List Value),ab0 (abA A xs.length cap (K.sz c) vss.flatten::ab1 K (pcS K) c xs vss) h:=by
 constructor
 ·rintro ⟨n,vs,s⟩
  refine ⟨vs,abO (fun k hk =>?_) s⟩
  have:=aiU (pc:=pcN K n) (pc':=pcS K) (fun f v h hp =>⟨n,hp⟩) xs vs [] k (by simpa using hk)
  simpa using this
 ·rintro ⟨vs,k1,k2,a,e,hp,hL⟩
  obtain ⟨n,hn⟩:=amV _ _ _ hL
  exact ⟨n,vs,k1,k2,a,e,hp,hn⟩
theorem aa6 {f:Fl K.T K.M} {v:Value} {h:Hp}:pcS K f v h↔pcW K (obS K) (rwS K) f v h:=by
 constructor
 ·rintro ⟨n,hp⟩
  cases n with
  | zero =>exact ak3 (fun _ _ _ _ h =>h.elim) (fun _ _ _ _ _ h =>h.elim) f v h hp
  | succ n =>exact ak3 (fun _ _ _ _ h =>⟨n,h⟩) (fun _ _ _ _ _ h =>⟨n,h⟩) f v h hp
 ·intro hp
  cases f with
  | i k x =>exact ⟨0,hp⟩
  | b x =>exact ⟨0,hp⟩
  | c u =>exact ⟨0,hp⟩
  | own c x =>obtain ⟨q,e,n,hq⟩:=hp; exact ⟨n+1,q,e,hq⟩
  | row c xs =>obtain ⟨A,cap,e,n,hq⟩:=hp; exact ⟨n+1,A,cap,e,hq⟩
  | ro c xs =>exact ⟨0,hp⟩
  | rr c xss =>exact ⟨0,hp⟩
  | mach m =>
   simp only [pcW] at hp
   split at hp
   ·rename_i e; exact ⟨0,by simp only [pcN,pcW,e]; exact hp⟩
   ·rename_i p e
    obtain ⟨q,e',n,hq⟩:=hp
    exact ⟨n+1,by simp only [pcN,pcW,e]; exact ⟨q,e',hq⟩⟩
  | o =>exact ⟨0,hp⟩
end
def afu (k:Int):List MapEntry→Option Value
 | [] =>none
 | e::es =>match e.key with
  | .int .i64 j =>if k=j then some e.val else afu k es
  | _ =>afu k es
def aqM {α:Type} (enc:α→Value) (m:Int→Option α) (es:List MapEntry):Prop :=
 (∀ e∈es,∃ j,e.key=.int .i64 j)∧es.Pairwise (fun a b =>a.key≠b.key)∧∀ k,afu k es=(m k).map enc
def aF2 {α:Type} (enc:α→Value) (m:Int→Option α) (b:Nat):aak:=fun h =>∃ es clock,aqM enc m es.toList∧aeo b (.map es clock) h
def aE6 {α:Type} (m:Int→Option α) (k:Int) (x:α):Int→Option α:=fun j =>if j=k then some x else m j
section
variable {P:Program} {w:World} {b:Nat} {clock:Nat} {t kt et:TypeId} {k:Int}
theorem aoL {q:IntKind}:∀ {es:List MapEntry} {i:Nat},(∀ e∈es,∃ j,e.key=.int .i64 j) →
  ∃ r,Instr.findNow (.int q) (.int .i64 k) es i=some r∧(r=none→afu k es=none)∧∀ j v,r=some (j,v)→i≤j∧∃ e,es[j-i]?=some e∧e.key=.int .i64 k∧e.val=v∧afu k es=some v
 | [],i,_ =>⟨none,rfl,fun _ =>rfl,fun j v h =>by cases h⟩
 | e::es,i,h =>by
  obtain ⟨j,hj⟩:=h e (List.mem_cons_self ..)
  obtain ⟨r,h1,h2,h3⟩:=aoL (i:=i+1) (es:=es) fun x hx =>h x (List.mem_cons_of_mem _ hx)
  unfold Instr.findNow
  simp only [hj,Instr.sameNow,if_true,afu]
  by_cases hk:k=j
  ·subst hk
   simp only [beq_self_eq_true,if_true]
   refine ⟨_,rfl,fun h =>(by cases h),fun j v h =>?_⟩
   cases h
   exact ⟨Nat.le_refl _,e,by simp,hj,rfl,rfl⟩
  ·have hb:(k == j)=false:=by simp [hk]
   simp only [hb,if_neg hk]
   refine ⟨r,h1,h2,fun j v hr =>?_⟩
   obtain ⟨a1,e',a2,a3⟩:=h3 j v hr
   refine ⟨by omega,e',?_,a3⟩
   have:j-i=(j-(i+1))+1:=by omega
   rw [this]; simpa using a2
theorem ath {emp:Bool} (hk:P.underlying kt=some (.int .i64)):(Instr.checkKey emp 10000 kt (.int .i64 k)).run P w=.ok () w:=by
 rw [show (10000:Nat)=9999+1 from rfl,Instr.checkKey]
 simp [run_underlying hk,Result.andThen]
theorem awO {es:Array MapEntry} {z:Value} {ok:Bool} (ht:P.underlying t=some (.map kt et)) (hk:P.underlying kt=some (.int .i64)) (hz:(zeroValue et).run P w=.ok z w) (hb:w.heap[b]?=some (.map es clock)) (hr:∀ e∈es.toList,∃ j,e.key=.int .i64 j) :
  (Instr.lookup t (.map (some b)) (.int .i64 k) ok).run P w=.ok (if ok=true then .tuple #[(afu k es.toList).getD z,.bool (afu k es.toList).isSome] else (afu k es.toList).getD z) w:=by
 obtain ⟨r,h1,h2,h3⟩:=aoL (k:=k) (q:=.i64) (i:=0) hr
 cases r with
 | none =>
  have e1:=h2 rfl
  rw [e1]
  cases ok<;>simp [Instr.lookup,run_underlying ht,MapKept.run_getObj_map hb,ath hk,Instr.findKey,run_underlying hk,h1,hz,Result.andThen]
 | some p =>
  obtain ⟨j,v⟩:=p
  obtain ⟨_,e,_,_,_,e1⟩:=h3 j v rfl
  rw [e1]
  cases ok<;>simp [Instr.lookup,run_underlying ht,MapKept.run_getObj_map hb,ath hk,Instr.findKey,run_underlying hk,h1,Result.andThen]
theorem aj6:∀ {es:List MapEntry},afu k es=none→∀ e∈es,e.key≠.int .i64 k
 | [],_,e,he =>by cases he
 | x::es,h,e,he =>by
  unfold afu at h
  rcases List.mem_cons.1 he with rfl | he
  ·intro hk
   rw [hk] at h
   simp at h
  ·split at h
   ·split at h
    ·cases h
    ·exact aj6 h e he
   ·exact aj6 h e he
theorem al5:∀ {es l:List MapEntry} {j:Int},afu j (es++l)=match afu j es with
  | some v =>some v
  | none =>afu j l
 | [],l,j =>rfl
 | x::es,l,j =>by
  simp only [List.cons_append,afu]
  split
  ·split
   ·rfl
   ·exact al5
  ·exact al5
theorem as9 {v:Value}:∀ {es:List MapEntry} {i:Nat} {e:MapEntry} {j:Int},es.Pairwise (fun a b =>a.key≠b.key)→es[i]?=some e→e.key=.int .i64 k →
  afu j (es.modify i fun e =>{ e with key:=.int .i64 k,val:=v })=if j=k then some v else afu j es
 | [],i,e,j,_,h,_ =>by simp at h
 | x::es,0,e,j,hp,h,hk =>by
  simp at h; subst h
  simp only [List.modify_zero_cons,afu,hk]
  by_cases hj:j=k
  ·rw [if_pos hj,if_pos hj]
  ·rw [if_neg hj,if_neg hj,if_neg hj]
 | x::es,i+1,e,j,hp,h,hk =>by
  rw [List.pairwise_cons] at hp
  have ih:=as9 (v:=v) (j:=j) hp.2 (by simpa using h) hk
  have hx:x.key≠.int .i64 k:=fun hx =>hp.1 e (List.mem_of_getElem? (by simpa using h)) (hx.trans hk.symm)
  simp only [List.modify_succ_cons,afu]
  split
  ·rename_i a ha
   by_cases hja:j=a
   ·rw [if_pos hja,if_pos hja,if_neg]
    intro e1; apply hx; rw [ha,← hja,e1]
   ·rw [if_neg hja,if_neg hja]; exact ih
  ·exact ih
theorem aot {v:Value}:∀ {es:List MapEntry} {i:Nat} {e:MapEntry},es[i]?=some e→e.key=.int .i64 k →
  (es.modify i fun e =>{ e with key:=.int .i64 k,val:=v }).map (·.key)=es.map (·.key)
 | [],i,e,h,_ =>by simp at h
 | x::es,0,e,h,hk =>by simp at h; subst h; simp [hk]
 | x::es,i+1,e,h,hk =>by
  have ih:=aot (v:=v) (es:=es) (i:=i) (by simpa using h) hk
  simp only [List.modify_succ_cons,List.map_cons,ih]
theorem aw0 {es fs:List MapEntry} (h:fs.map (·.key)=es.map (·.key)) (hp:es.Pairwise (fun a b =>a.key≠b.key)):fs.Pairwise (fun a b =>a.key≠b.key):=by
 have h1:(es.map (·.key)).Pairwise (·≠·):=List.pairwise_map.2 hp
 rw [← h] at h1
 exact List.pairwise_map.1 h1
theorem azC {es fs:List MapEntry} (h:fs.map (·.key)=es.map (·.key)) (hp:∀ e∈es,∃ j,e.key=.int .i64 j):∀ e∈fs,∃ j,e.key=.int .i64 j:=fun e he =>by
 have:e.key∈es.map (·.key):=by rw [← h]; exact List.mem_map_of_mem he
 obtain ⟨x,hx,e1⟩:=List.mem_map.1 this
 rw [← e1]; exact hp x hx
theorem ay7 {α:Type} {enc:α→Value} {m:Int→Option α} {x:α} {es:Array MapEntry} (ht:P.underlying t=some (.map kt et)) (hk:P.underlying kt=some (.int .i64)) (hb:w.heap[b]?=some (.map es clock)) (hr:aqM enc m es.toList) :
  ∃ es' clock',(Instr.mapUpdate t (.map (some b)) (.int .i64 k) (enc x)).run P w=.ok () (w.putObj b (.map es' clock'))∧aqM enc (aE6 m k x) es'.toList:=by
 obtain ⟨r1,r2,r3⟩:=hr
 obtain ⟨r,h1,h2,h3⟩:=aoL (k:=k) (q:=.i64) (i:=0) r1
 cases r with
 | none =>
  have e1:=h2 rfl
  refine ⟨es.push ⟨.int .i64 k,enc x,clock⟩,clock+1,?_,?_,?_,fun j =>?_⟩
  ·simp [Instr.mapUpdate,run_underlying ht,MapKept.run_getObj_map hb,ath hk,Instr.findKey,run_underlying hk,h1,MapKept.run_setObj_map _ hb,Result.andThen,World.putObj]
  ·intro e he
   rw [Array.toList_push] at he
   rcases List.mem_append.1 he with he | he
   ·exact r1 e he
   ·rw [List.mem_singleton.1 he]; exact ⟨k,rfl⟩
  ·rw [Array.toList_push,List.pairwise_append]
   refine ⟨r2,by simp,fun a ha c hc =>?_⟩
   rw [List.mem_singleton.1 hc]
   exact aj6 e1 a ha
  ·rw [Array.toList_push,al5]
   show _=Option.map enc (if j=k then some x else m j)
   by_cases hj:j=k
   ·rw [if_pos hj,hj,e1]
    simp [afu]
   ·rw [if_neg hj,← r3 j]
    cases afu j es.toList with
    | some v =>rfl
    | none =>simp [afu,hj]
 | some p =>
  obtain ⟨i,v⟩:=p
  obtain ⟨_,e,a1,a2,a3,a4⟩:=h3 i v rfl
  simp only [Nat.sub_zero] at a1
  have ai:es[i]?=some e:=by rw [← Array.getElem?_toList]; exact a1
  have hs:Instr.sameBits 10000 (.int .i64 k) (.int .i64 k)=true:=by simp [Instr.sameBits]
  refine ⟨es.modify i fun e =>{ e with key:=.int .i64 k,val:=enc x },clock,?_,?_,?_,fun j =>?_⟩
  ·simp [Instr.mapUpdate,run_underlying ht,MapKept.run_getObj_map hb,ath hk,Instr.findKey,run_underlying hk,h1,ai,a2,Instr.keyThatStays,hs,MapKept.run_setObj_map _ hb,Result.andThen,World.putObj]
  ·rw [Array.toList_modify]; exact azC (aot a1 a2) r1
  ·rw [Array.toList_modify]; exact aw0 (aot a1 a2) r2
  ·rw [Array.toList_modify,as9 r2 a1 a2]
   show _=Option.map enc (if j=k then some x else m j)
   by_cases hj:j=k
   ·rw [if_pos hj,if_pos hj]; rfl
   ·rw [if_neg hj,if_neg hj]; exact r3 j
end
inductive Fd (T:Nat→Type) (M:Type) where
 | v (x:V)
 | f (x:Fl T M)
inductive Ch (T:Nat→Type) (M:Type) where
 | cells (fs:List (Fd T M))
 | row (c:Nat) (xs:List (T c))
 | ro (c:Nat) (xs:List (T c))
 | rr (c:Nat) (xss:List (List (T c)))
 | elt (j:Nat) (i:Int) (sz:Nat)
 | arr (m sz:Nat) (vs:List V)
 | mach (m:M)
 | any (A:aak)
 | hole (c:Nat) (xs:List (T c)) (i:Int) (o:Nat) (u:V)
 | gap (c:Nat) (xs:List (T c)) (i:Int) (e:Nat)
 | slc (e m sz:Nat)
 | fm (l:List (Int×FuncId)) (o:Nat)
 | rest (c:Nat) (xs:List (T c)) (j:Int)
section
variable (K:KT)
abbrev KT.D:=Fd K.T K.M
abbrev KT.C:=Ch K.T K.M
abbrev KT.H:=List (Nat×Ch K.T K.M)
def fS (ρ:Env):Fd K.T K.M→Value→aak
 | .v x,v =>akP (v=aaE ρ x)
 | .f x,v =>pcS K x v
def asu (ρ:Env) (id j sz:Nat) (i:Int):Prop:=(0≤i∧i<((ρ.s j).n:Int))∧∃ b o,(ρ.s j).a=some ⟨b,o,none⟩∧ρ.p id=(b,o+i.toNat*sz)
def aGa (A:Option Addr) (n cap c:Nat) (xs:List (K.T c)) (i:Int) (q:Nat×Nat):aak:=fun h =>∃ (b o:Nat) (vss:List (List Value)) (spare:List Value) (N:List aak),(0≤i∧i<(xs.length:Int))∧(A=some ⟨b,o,none⟩∧n=xs.length∧q=(b,o+i.toNat*K.sz c))∧(vss.length=xs.length∧∀ v∈vss,v.length=K.sz c) ∧
 (xs.length≤cap∧cap≤maxLen∧spare.length=(cap-xs.length)*K.sz c)∧(∀ x' vs',(ab1 K (pcS K) c (xs.set i.toNat x') (vss.set i.toNat vs')).Perm (fsS (pcS K) (K.vw c x') vs'++N)) ∧
 ab0 (pts b o (vss.flatten.take (i.toNat*K.sz c))::pts b (o+i.toNat*K.sz c+K.sz c) (vss.flatten.drop (i.toNat*K.sz c+K.sz c)++spare)::N) h
def aFO (A:Option Addr) (cap c:Nat) (xs:List (K.T c)) (i:Int) (o:Nat) (v:Value):aak:=fun h =>∃ (x:K.T c) (vss:List (List Value)) (vs:List Value) (N:List aak),
 (xs[i.toNat]?=some x∧vss[i.toNat]?=some vs∧vs[o]?=some v)∧(∀ x',(ab1 K (pcS K) c (xs.set i.toNat x') vss).Perm (fsS (pcS K) (K.vw c x') vs++N))∧o<(K.vw c x).length ∧
 ab0 (abA A xs.length cap (K.sz c) vss.flatten::(fsS (pcS K) ((K.vw c x).eraseIdx o) (vs.eraseIdx o)++N)) h
def fmF (p:Value):List (Int×FuncId)→Int→Option Value
 | [],_ =>none
 | x::l,k =>if k=x.1 then some (.func (.func x.2) #[p] #[]) else fmF p l k
def aCN (A:Option Addr) (cap c:Nat) (xs:List (K.T c)) (j:Nat):aak:=fun h =>xs.length≤cap∧∀ i:Nat,j≤i→i≤xs.length→rwS K c (xs.drop i) (if cap=i then A else A.map fun a =>a.add (i*K.sz c)) (cap-i) h
def act (ρ:Env) (id:Nat):Ch K.T K.M→aak
 | .cells fs =>exL fun vs:List Value =>pts (ρ.p id).1 (ρ.p id).2 vs::fsS (fS K ρ) fs vs
 | .row c xs =>fun h =>(ρ.s id).n=xs.length∧rwS K c xs (ρ.s id).a (ρ.s id).c h
 | .ro c xs =>fun h =>(ρ.s id).n=xs.length∧roS (aex K c) (K.sz c) (ρ.s id).a (ρ.s id).c xs h
 | .rr c xss =>fun h =>(ρ.s id).n=xss.length∧rrS (aex K c) (K.sz c) (ρ.s id).a (ρ.s id).c xss h
 | .elt j i sz =>akP (asu ρ id j sz i)
 | .arr m sz vs =>fun h =>(ρ.s id=⟨some ⟨(ρ.p id).1,(ρ.p id).2,none⟩,m,m⟩∧vs.length=m*sz∧m≤maxLen)∧pts (ρ.p id).1 (ρ.p id).2 (aas ρ vs) h
 | .mach m =>pcS K (.mach m) (ρ.v id)
 | .any A =>A
 | .hole c xs i o u =>fun h =>(ρ.s id).n=xs.length∧aFO K (ρ.s id).a (ρ.s id).c c xs i o (aaE ρ u) h
 | .gap c xs i e =>aGa K (ρ.s id).a (ρ.s id).n (ρ.s id).c c xs i (ρ.p e)
 | .slc e m sz =>fun h =>((ρ.s id).a=some ⟨(ρ.p e).1,(ρ.p e).2,none⟩∧(ρ.s id).n=m∧m≤(ρ.s id).c∧(ρ.s id).c≤maxLen)∧∃ spare:List Value,spare.length=((ρ.s id).c-m)*sz∧pts (ρ.p e).1 ((ρ.p e).2+m*sz) spare h
 | .fm l o =>fun h =>∃ b,ρ.v id=.map (some b)∧aF2 (fun v:Value =>v) (fmF (aaE ρ (.ptr o 0)) l) b h
 | .rest c xs j =>fun h =>(ρ.s id).n=xs.length∧aCN K (ρ.s id).a (ρ.s id).c c xs j.toNat h
def dH (ρ:Env) (H:KT.H K):List aak:=H.map fun p =>act K ρ p.1 p.2
end
section
variable {T:Nat→Type} {M:Type}
def aAn:Fd T M→Nat
 | .v x =>aha x
 | .f _ =>0
def aiP:List (Fd T M)→Nat
 | [] =>0
 | f::fs =>mx (aAn f) (aiP fs)
def aqY:Ch T M→Nat
 | .cells fs =>aiP fs
 | .elt j _ _ =>j+1
 | .arr _ _ vs =>agk vs
 | .hole _ _ _ _ u =>aha u
 | .gap _ _ _ e =>e+1
 | .slc e _ _ =>e+1
 | .fm _ o =>o+1
 | _ =>0
def aec:List (Nat×Ch T M)→Nat
 | [] =>0
 | p::H =>mx (mx (p.1+1) (aqY p.2)) (aec H)
theorem ajq {a b n:Nat} (h:mx a b≤n):a≤n∧b≤n:=⟨Nat.le_trans aCW h,Nat.le_trans aAJ h⟩
end
section
variable {K:KT} {ρ ρ':Env} {n:Nat}
theorem azO (h:aaL n ρ ρ') (f:Fd K.T K.M) (hn:aAn f≤n):fS K ρ f=fS K ρ' f:=by
 cases f with
 | v x =>funext v; simp only [fS,abG h x hn]
 | f x =>rfl
theorem al4 (h:aaL n ρ ρ'):∀ (fs:List (Fd K.T K.M)) (vs:List Value),aiP fs≤n→fsS (fS K ρ) fs vs=fsS (fS K ρ') fs vs
 | [],[],_ =>rfl
 | f::fs,v::vs,hn =>by
  simp only [aiP] at hn
  simp only [fsS,azO h f (ajq hn).1,al4 h fs vs (ajq hn).2]
 | [],_::_,_ =>rfl
 | _::_,[],_ =>rfl
theorem adH (h:aaL n ρ ρ') {id:Nat} (hid:id<n) (c:Ch K.T K.M) (hn:aqY c≤n):act K ρ id c=act K ρ' id c:=by
 cases c with
 | cells fs =>
  simp only [aqY] at hn
  simp only [act,(h id hid).1]
  congr 1
  funext vs
  rw [al4 h fs vs hn]
 | row c xs =>simp only [act,(h id hid).2.1]
 | ro c xs =>simp only [act,(h id hid).2.1]
 | rr c xs =>simp only [act,(h id hid).2.1]
 | elt j i sz =>simp only [aqY] at hn; simp only [act,asu,(h id hid).1,(h j (by omega)).2.1]
 | arr m sz vs =>simp only [aqY] at hn; simp only [act,(h id hid).1,(h id hid).2.1,adc h vs hn]
 | mach m =>simp only [act,(h id hid).2.2]
 | any A =>rfl
 | hole c xs i o u =>simp only [aqY] at hn; simp only [act,(h id hid).2.1,abG h u hn]
 | gap c xs i e =>simp only [aqY] at hn; simp only [act,(h id hid).2.1,(h e (by omega)).1]
 | slc e m sz =>simp only [aqY] at hn; simp only [act,(h id hid).2.1,(h e (by omega)).1]
 | fm l o =>simp only [aqY] at hn; simp only [act,aaE,(h id hid).2.2,(h o (by omega)).1]
 | rest c xs j =>simp only [act,(h id hid).2.1]
theorem ab9 (h:aaL n ρ ρ'):∀ H:KT.H K,aec H≤n→dH K ρ H=dH K ρ' H
 | [],_ =>rfl
 | p::H,hn =>by
  simp only [aec] at hn
  have h1:=ajq (ajq hn).1
  show act K ρ p.1 p.2::dH K ρ H=act K ρ' p.1 p.2::dH K ρ' H
  rw [ab9 h H (ajq hn).2,adH h h1.1 _ h1.2]
theorem aoS {id:Nat} {L:List aak}:∀ {H:KT.H K},Ent (dH K ρ H++L) (dH K ρ (del H id)++L)
 | [] =>Ent.refl
 | (t,c)::H =>by
  unfold del
  split
  ·exact Ent.drop.trans aoS
  ·exact Ent.cons (fun _ h =>h) aoS
theorem aa4 {id:Nat} {c:Ch K.T K.M} {L:List aak}:∀ {H:KT.H K},get H id=some c→Ent (dH K ρ H++L) (act K ρ id c::(dH K ρ (del H id)++L))
 | [],h =>by cases h
 | (t,c')::H,h =>by
  unfold get at h
  unfold del
  split at h
  ·rename_i e
   have e':t=id:=Nat.eq_of_beq_eq_true e
   simp only [Option.some.injEq] at h
   subst e' h
   exact Ent.cons (fun _ h =>h) aoS
  ·have ih:=aa4 (L:=L) (H:=H) h
   exact (Ent.cons (A:=act K ρ t c') (fun _ h =>h) ih).trans (Ent.perm (List.Perm.swap ..))
theorem avh {fs:List (Fd K.T K.M)} {i:Nat} {f:Fd K.T K.M} (h:fs[i]?=some f):aAn f≤aiP fs:=by
 induction fs generalizing i with
 | nil =>cases h
 | cons g fs ih =>
  cases i with
  | zero =>simp at h; subst h; exact aCW
  | succ i =>exact Nat.le_trans (ih (by simpa using h)) aAJ
theorem agl {id:Nat} {c:Ch K.T K.M}:∀ {H:KT.H K},get H id=some c→id<aec H∧aqY c≤aec H
 | [],h =>by cases h
 | (t,c')::H,h =>by
  unfold get at h
  have hm:=ajq (Nat.le_refl (aec ((t,c')::H)))
  split at h
  ·rename_i e
   have e':t=id:=Nat.eq_of_beq_eq_true e
   simp only [Option.some.injEq] at h
   subst e' h
   exact ⟨(ajq hm.1).1,(ajq hm.1).2⟩
  ·have:=agl h
   exact ⟨Nat.lt_of_lt_of_le this.1 hm.2,Nat.le_trans this.2 hm.2⟩
theorem adB {id:Nat}:∀ {H:KT.H K},aec (del H id)≤aec H
 | [] =>Nat.le_refl _
 | (t,c)::H =>by
  unfold del
  split
  ·exact Nat.le_trans adB aAJ
  ·exact akQ ⟨aCW,Nat.le_trans adB aAJ⟩
theorem ah5 {F:Type} {pc:F→Value→aak}:∀ {fs:List F} {vs:List Value} {i:Nat} {f:F} {v:Value},fs[i]?=some f→vs[i]?=some v →
  (fsS pc fs vs).Perm (pc f v::fsS pc (fs.eraseIdx i) (vs.eraseIdx i))∧∀ f' v',(fsS pc (fs.set i f') (vs.set i v')).Perm (pc f' v'::fsS pc (fs.eraseIdx i) (vs.eraseIdx i))
 | [],_,_,_,_,h,_ =>by cases h
 | _::_,[],_,_,_,_,h =>by cases h
 | g::fs,u::vs,0,f,v,h,h' =>by
  simp at h h'; subst h h'
  exact ⟨.refl _,fun _ _ =>.refl _⟩
 | g::fs,u::vs,i+1,f,v,h,h' =>by
  obtain ⟨h1,h2⟩:=ah5 (pc:=pc) (fs:=fs) (vs:=vs) (i:=i) (by simpa using h) (by simpa using h')
  exact ⟨(h1.cons _).trans (.swap ..),fun f' v' =>((h2 f' v').cons _).trans (.swap ..)⟩
theorem alf {K:KT}:∀ {fs:List (Fd K.T K.M)} {i:Nat},aiP (fs.eraseIdx i)≤aiP fs
 | [],_ =>Nat.le_refl _
 | _::_,0 =>aAJ
 | _::_,_+1 =>akQ ⟨aCW,Nat.le_trans alf aAJ⟩
theorem anQ {α:Type} {l:List α} {i:Nat} {a:α} (h:l[i]?=some a):l.set i a=l:=by
 obtain ⟨hlt,rfl⟩:=List.getElem?_eq_some_iff.1 h
 simp
theorem ar1 {F:Type} {pc:F→Value→aak}:∀ {fs:List F} {vs:List Value} {L:List aak} {h:Hp},ab0 (fsS pc fs vs++L) h→fs.length=vs.length
 | [],[],_,_,_ =>rfl
 | _::fs,_::vs,L,_,⟨_,_,_,_,_,s⟩ =>by simp [ar1 s]
 | [],_::_,_,_,⟨_,_,_,_,hf,_⟩ =>hf.elim
 | _::_,[],_,_,⟨_,_,_,_,hf,_⟩ =>hf.elim
theorem ahh {F:Type} {pc:F→Value→aak} {fs:List F} {vs:List Value} {B:Nat} {w:World} {A:aak} {L:List aak} (s:Sat B w (A::(fsS pc fs vs++L))):fs.length=vs.length:=by
 obtain ⟨h,_,k1,k2,_,_,_,hL⟩:=s
 exact ar1 hL
theorem Sat.pure {B:Nat} {w:World} {p:Prop} {L:List aak} (s:Sat B w (akP p::L)):p:=by
 obtain ⟨h,_,k1,k2,_,_,hA,_⟩:=s
 exact hA
theorem az8 {B:Nat} {w:World} {H:KT.H K} {X:List aak} {id o:Nat} {fs:List (Fd K.T K.M)} {f:Fd K.T K.M} (s:Sat B w (dH K ρ H++X)) (hg:get H id=some (.cells fs)) (hf:fs[o]?=some f) :
  ∃ vs v,vs[o]?=some v∧fs.length=vs.length∧Sat B w (pts (ρ.p id).1 (ρ.p id).2 vs::(fsS (fS K ρ) fs vs++(dH K ρ (del H id)++X)))∧w.cell? ⟨(ρ.p id).1,(ρ.p id).2+o,none⟩=some v:=by
 have s1:=s.imp (aa4 (ρ:=ρ) hg)
 obtain ⟨vs,s2⟩:=afy s1
 have hl:=ahh s2
 have ho:o<vs.length:=by rw [← hl]; exact (List.getElem?_eq_some_iff.1 hf).1
 exact ⟨vs,vs[o],List.getElem?_eq_getElem ho,hl,s2,(s2.cell (List.getElem?_eq_getElem ho)).2.1⟩
theorem avC {B:Nat} {w:World} {A P:aak} {X Y L:List aak} (s:Sat B w (A::(X++L))) (p:X.Perm (P::Y)):Sat B w (P::A::(Y++L)) :=
 s.perm ((List.Perm.cons _ (p.append_right L)).trans (List.Perm.swap ..))
end
def Env.setP (ρ:Env) (n:Nat) (q:Nat×Nat):Env:={ ρ with p:=fun i =>if i=n then q else ρ.p i }
def Env.setS (ρ:Env) (n:Nat) (q:Sle):Env:={ ρ with s:=fun i =>if i=n then q else ρ.s i }
def Env.setV (ρ:Env) (n:Nat) (q:Value):Env:={ ρ with v:=fun i =>if i=n then q else ρ.v i }
theorem agf (ρ:Env) (n:Nat) (q:Nat×Nat):aaL n ρ (ρ.setP n q):=fun k hk =>⟨by simp only [Env.setP]; rw [if_neg (by omega)],rfl,rfl⟩
theorem aca (ρ:Env) (n:Nat) (q:Sle):aaL n ρ (ρ.setS n q):=fun k hk =>⟨rfl,by simp only [Env.setS]; rw [if_neg (by omega)],rfl⟩
theorem akg (ρ:Env) (n:Nat) (q:Value):aaL n ρ (ρ.setV n q):=fun k hk =>⟨rfl,rfl,by simp only [Env.setV]; rw [if_neg (by omega)]⟩
section
variable {T:Nat→Type} {M:Type}
def opF (vw:(c:Nat)→T c→List (Fl T M)) (n:Nat):Fd T M→V×Option (Ch T M)
 | .v x =>(x,none)
 | .f (.i k x) =>(.i k x,none)
 | .f (.b x) =>(.b x,none)
 | .f (.c u) =>(ayj u,none)
 | .f (.own c x) =>(.ptr n 0,some (.cells ((vw c x).map .f)))
 | .f (.row c xs) =>(.sl n,some (.row c xs))
 | .f (.ro c xs) =>(.sl n,some (.ro c xs))
 | .f (.rr c xs) =>(.sl n,some (.rr c xs))
 | .f (.mach m) =>(.mc n,some (.mach m))
 | .f .o =>(.mc n,some (.any fun _ =>True))
end
section
variable {K:KT}
theorem al1 (pc:Fl K.T K.M→Value→aak) (pc':Fd K.T K.M→Value→aak) (h:∀ x v,pc' (.f x) v=pc x v):∀ (l:List (Fl K.T K.M)) (vs:List Value),fsS pc' (l.map .f) vs=fsS pc l vs
 | [],[] =>rfl
 | f::fs,v::vs =>by simp only [List.map_cons,fsS,h,al1 pc pc' h fs vs]
 | [],_::_ =>rfl
 | _::_,[] =>rfl
theorem az2 (u:Value):aha (ayj u)=0:=by cases u<;>rfl
theorem awF {ρ:Env} {n:Nat} {f:Fd K.T K.M} {v:Value} {k:Hp} (hn:aAn f≤n) (h:fS K ρ f v k) :
  ∃ ρ',aaL n ρ ρ'∧v=aaE ρ' (opF K.vw n f).1∧(match (opF K.vw n f).2 with | none =>True | some c =>act K ρ' n c k):=by
 cases f with
 | v x =>exact ⟨ρ,aaL.refl _ _,h,trivial⟩
 | f x =>
  have h2:pcS K x v k:=h
  rw [aa6] at h2
  cases x with
  | i k x =>exact ⟨ρ,aaL.refl _ _,h2,trivial⟩
  | b x =>exact ⟨ρ,aaL.refl _ _,h2,trivial⟩
  | c u =>exact ⟨ρ,aaL.refl _ _,by rw [opF,agQ]; exact h2,trivial⟩
  | own c x =>
   obtain ⟨q,e,ho⟩:=h2
   refine ⟨ρ.setP n q,agf _ _ _,?_,?_⟩
   ·rw [e]; simp [opF,aaE,Env.setP]
   ·rw [aj1] at ho
    obtain ⟨vs,s⟩:=ho
    refine ⟨vs,?_⟩
    simp only [Env.setP,if_true]
    rw [al1 (pcS K) _ (fun x v =>rfl)]
    exact s
  | row c xs =>
   obtain ⟨A,cap,e,ho⟩:=h2
   refine ⟨ρ.setS n ⟨A,xs.length,cap⟩,aca _ _ _,?_,?_,?_⟩
   ·rw [e]; simp [opF,aaE,Env.setS]
   ·simp [Env.setS]
   ·simpa [Env.setS] using ho
  | ro c xs =>
   obtain ⟨A,cap,e,ho⟩:=h2
   refine ⟨ρ.setS n ⟨A,xs.length,cap⟩,aca _ _ _,?_,?_,?_⟩
   ·rw [e]; simp [opF,aaE,Env.setS]
   ·simp [Env.setS]
   ·simpa [Env.setS] using ho
  | rr c xs =>
   obtain ⟨A,cap,e,ho⟩:=h2
   refine ⟨ρ.setS n ⟨A,xs.length,cap⟩,aca _ _ _,?_,?_,?_⟩
   ·rw [e]; simp [opF,aaE,Env.setS]
   ·simp [Env.setS]
   ·simpa [Env.setS] using ho
  | mach m =>
   refine ⟨ρ.setV n v,akg _ _ _,?_,?_⟩
   ·simp [opF,aaE,Env.setV]
   ·simp only [opF,act,Env.setV,if_true]
    exact h
  | o =>exact ⟨ρ.setV n v,akg _ _ _,by simp [opF,aaE,Env.setV],trivial⟩
theorem agy {n:Nat} {f:Fd K.T K.M} (hn:aAn f≤n):aha (opF K.vw n f).1≤n+1∧(∀ c,(opF K.vw n f).2=some c→aqY c≤n):=by
 cases f with
 | v x =>exact ⟨Nat.le_succ_of_le hn,fun c h =>by cases h⟩
 | f x =>
  cases x<;>refine ⟨?_,fun c h =>?_⟩<;>simp only [opF,aha,az2] at*<;> first | omega | (cases h; done) | (cases h; simp only [aqY])<;>try omega
  ·rename_i c x
   have:∀ l:List (Fl K.T K.M),aiP (l.map (Fd.f:Fl K.T K.M→Fd K.T K.M))=0:=fun l =>by
    induction l with
    | nil =>rfl
    | cons y l ih =>simp only [List.map_cons,aiP,ih,aAn]; rfl
   rw [this]; omega
end
structure Nx (K:KT) where
 ρ:Env
 n:Nat
 H:KT.H K
 v:V
def tl (K:KT) (Z:KT.H K) (F:aak) (ρ:Env):List aak:=dH K ρ Z++[F]
theorem acv {K:KT} {Z:KT.H K} {F:aak} {n:Nat} (h:aec Z≤n) {ρ ρ':Env} (ha:aaL n ρ ρ'):tl K Z F ρ=tl K Z F ρ':=by unfold tl; rw [ab9 ha Z h]
abbrev dS (K:KT) (ρ:Env) (Z H:KT.H K) (F:aak):List aak:=dH K ρ H++tl K Z F ρ
def ady (K:KT) (P:Program) (nt B:Nat) (W:World) (o:Oper) (R:abe) (n:Nat) (Z H:KT.H K) (nx:Nat→KT.H K→V→Prop):Prop :=
 ∀ F ρ a w,Sta nt B W (dR ρ R) (dS K ρ Z H F) a w→ahM P (fun (x:Nx K) w' =>(aaL n ρ x.ρ∧n≤x.n∧dR x.ρ R=dR ρ R∧nx x.n x.H x.v)∧Cls B W (dS K x.ρ Z x.H F) w') (fun x =>aaE x.ρ x.v) ((execOp a.eval o).run P w)
section
variable {K:KT} {r:Option Nat} {P:Program} {ops:Array Oper} {Q:Exit→Act→World→Prop} {nt n B:Nat} {W:World} {R:abe} {Z H:KT.H K} {ρ:Env} {o:Oper} {rest:List Oper} {nx:Nat→KT.H K→V→Prop} {F:aak}
theorem aBw (h:ady K P nt B W o R n Z H nx) (hd:aBJ nt o.dst=true) (hg:aek ops (dR ρ R) o.guard true) (k:∀ ρ' n' H' v,aaL n ρ ρ'→n≤n'→nx n' H' v→RT r P ops Q nt B W rest (dR ρ' (aol R o.dst v)) (dS K ρ' Z H' F)):RT r P ops Q nt B W (o::rest) (dR ρ R) (dS K ρ Z H F):=fun a w s =>by
 unfold wpListIn
 rw [if_pos (hg.spec s.regs)]
 refine afX (h F ρ a w s) fun x w' ⟨⟨ha,hn,hR,hx⟩,hw'⟩ =>?_
 have s1:Regs nt a (dR x.ρ R):=hR▸s.regs
 exact k x.ρ x.n x.H x.v ha hn hx _ _ (hw'.st (aeC hd a s1))
def awS (H:KT.H K) (id:Nat):Option Nat:=match get H id with
 | some (.row _ xs) =>some xs.length
 | some (.ro _ xs) =>some xs.length
 | some (.rr _ xs) =>some xs.length
 | some (.hole _ xs _ _ _) =>some xs.length
 | some (.gap _ xs _ _) =>some xs.length
 | _ =>none
theorem agB {H:KT.H K} {id m:Nat} (h:awS H id=some m) {w:World} {X:List aak} (s:Sat B w (dH K ρ H++X)):(ρ.s id).n=m:=by
 unfold awS at h
 split at h
 ·rename_i hg
  cases h
  obtain ⟨hh,Hh,k1,k2,a,e,⟨h1',h2⟩,hL⟩:=s.imp (aa4 (ρ:=ρ) hg)
  exact h1'
 ·rename_i hg
  cases h
  obtain ⟨hh,Hh,k1,k2,a,e,⟨h1',h2⟩,hL⟩:=s.imp (aa4 (ρ:=ρ) hg)
  exact h1'
 ·rename_i hg
  cases h
  obtain ⟨hh,Hh,k1,k2,a,e,⟨h1',h2⟩,hL⟩:=s.imp (aa4 (ρ:=ρ) hg)
  exact h1'
 ·rename_i hg
  cases h
  obtain ⟨hh,Hh,k1,k2,a,e,⟨h1',h2⟩,hL⟩:=s.imp (aa4 (ρ:=ρ) hg)
  exact h1'
 ·rename_i hg
  cases h
  obtain ⟨hh,Hh,k1,k2,a,e,⟨_,_,_,_,_,_,⟨_,h1',_⟩,_⟩,hL⟩:=s.imp (aa4 (ρ:=ρ) hg)
  exact h1'
 ·cases h
end
def atL {α:Type} (d:α) (xs:List α) (i:Int):α:=(xs[i.toNat]?).getD d
def scF {T:Nat→Type} {M:Type}:Fl T M→Option V
 | .i k x =>some (.i k x)
 | .b x =>some (.b x)
 | .c u =>some (ayj u)
 | _ =>none
section
variable {K:KT} {ρ:Env}
theorem aBq {f:Fl K.T K.M} {v:V} (h:scF f=some v):aaE ρ v=flV f:=by
 cases f<;>simp [scF] at h<;>subst h<;>first | rfl | exact agQ ..
theorem aDk {f:Fl K.T K.M} {v:V} {u:Value} {k:Hp} (h:scF f=some v) (hp:pcS K f u k):u=aaE ρ v:=by
 rw [aa6] at hp
 cases f<;>simp [scF] at h<;>subst h<;>simp only [aaE,agQ]<;>exact hp
theorem ah8 {vss:List (List Value)} {sz:Nat} (hl:∀ vs∈vss,vs.length=sz):∀ {i o:Nat} {vs:List Value} {v:Value},vss[i]?=some vs→vs[o]?=some v→vss.flatten[i*sz+o]?=some v:=by
 induction vss with
 | nil =>intro i o vs v h; cases h
 | cons us vss ih =>
  intro i o vs v h h'
  have h0:=hl us (List.mem_cons_self ..)
  cases i with
  | zero =>
   simp at h; subst h
   rw [List.flatten_cons,Nat.zero_mul,Nat.zero_add,List.getElem?_append_left (List.getElem?_eq_some_iff.1 h').1]; exact h'
  | succ i =>
   rw [List.flatten_cons,List.getElem?_append_right (by rw [h0,Nat.add_mul]; omega)]
   have:=ih (fun vs h =>hl vs (List.mem_cons_of_mem _ h)) (i:=i) (by simpa using h) h'
   rw [← this]; congr 1; rw [h0,Nat.add_mul]; omega
theorem af1 {pc:Fl K.T K.M→Value→aak} {c:Nat}:∀ {xs:List (K.T c)} {vss:List (List Value)} {i:Nat} {x:K.T c} {vs:List Value},xs[i]?=some x→vss[i]?=some vs →
  ∃ M,(ab1 K pc c xs vss).Perm (fsS pc (K.vw c x) vs++M)∧∀ x' vs',(ab1 K pc c (xs.set i x') (vss.set i vs')).Perm (fsS pc (K.vw c x') vs'++M)
 | [],_,_,_,_,h,_ =>by cases h
 | _::_,[],_,_,_,_,h =>by cases h
 | g::xs,u::vss,0,x,vs,h,h' =>by
  simp at h h'; subst h h'
  exact ⟨ab1 K pc c xs vss,.refl _,fun _ _ =>.refl _⟩
 | g::xs,u::vss,i+1,x,vs,h,h' =>by
  obtain ⟨M,h1,h2⟩:=af1 (pc:=pc) (xs:=xs) (vss:=vss) (i:=i) (by simpa using h) (by simpa using h')
  refine ⟨fsS pc (K.vw c g) u++M,?_,fun x' vs' =>?_⟩
  ·exact (h1.append_left _).trans (by rw [← List.append_assoc,← List.append_assoc]; exact List.perm_append_comm.append_right _)
  ·exact ((h2 x' vs').append_left _).trans (by rw [← List.append_assoc,← List.append_assoc]; exact List.perm_append_comm.append_right _)
theorem asI {pc:Fl K.T K.M→Value→aak} {c:Nat}:∀ {xs:List (K.T c)} {vss:List (List Value)} {L:List aak} {h:Hp},ab0 (ab1 K pc c xs vss++L) h→xs.length=vss.length∧∀ (i:Nat) (x:K.T c) (vs:List Value),xs[i]?=some x→vss[i]?=some vs→(K.vw c x).length=vs.length
 | [],[],_,_,_ =>⟨rfl,fun _ _ _ h =>by cases h⟩
 | x::xs,vs::vss,L,h,s =>by
  have s':ab0 (fsS pc (K.vw c x) vs++(ab1 K pc c xs vss++L)) h:=by simpa [ab1] using s
  have h1:=ar1 s'
  obtain ⟨k1,k2,a,e,_,s2⟩:=aau.1 s'
  obtain ⟨h2,h3⟩:=asI s2
  refine ⟨by simp [h2],fun i y us hy hu =>?_⟩
  cases i with
  | zero =>simp at hy hu; subst hy hu; exact h1
  | succ i =>exact h3 i y us (by simpa using hy) (by simpa using hu)
 | [],_::_,_,_,⟨_,_,_,_,hf,_⟩ =>hf.elim
 | _::_,[],_,_,⟨_,_,_,_,hf,_⟩ =>hf.elim
theorem avG {pc:Fl K.T K.M→Value→aak} {c:Nat} {xs:List (K.T c)} {vss:List (List Value)} {L:List aak} {h:Hp} (s:ab0 (ab1 K pc c xs vss++L) h):xs.length=vss.length∧∀ vs∈vss,vs.length=K.sz c:=by
 obtain ⟨h1,h2⟩:=asI s
 refine ⟨h1,fun vs hv =>?_⟩
 obtain ⟨i,hi⟩:=List.mem_iff_getElem?.1 hv
 have hlt:i<xs.length:=by rw [h1]; exact (List.getElem?_eq_some_iff.1 hi).1
 rw [← h2 i _ vs (List.getElem?_eq_getElem hlt) hi,K.sz_ok]
theorem af2 {B:Nat} {w:World} {H:KT.H K} {X:List aak} {j c:Nat} {xs:List (K.T c)} (s:Sat B w (dH K ρ H++X)) (hg:get H j=some (.row c xs)) :
  (ρ.s j).n=xs.length∧∃ vss:List (List Value),xs.length=vss.length∧(∀ vs∈vss,vs.length=K.sz c)∧Sat B w (abA (ρ.s j).a xs.length (ρ.s j).c (K.sz c) vss.flatten::(ab1 K (pcS K) c xs vss++(dH K ρ (del H j)++X))):=by
 obtain ⟨h,Hh,k1,k2,a,e,⟨h1',h2⟩,hL⟩:=s.imp (aa4 (ρ:=ρ) hg)
 rw [acw] at h2
 obtain ⟨vss,s2⟩:=h2
 have s3:ab0 ((abA (ρ.s j).a xs.length (ρ.s j).c (K.sz c) vss.flatten::ab1 K (pcS K) c xs vss)++(dH K ρ (del H j)++X)) h:=aau.2 ⟨k1,k2,a,e,s2,hL⟩
 have h3:xs.length=vss.length∧∀ vs∈vss,vs.length=K.sz c:=by
  obtain ⟨q1,q2,a',e',_,hq⟩:=s2
  exact avG (L:=[]) (by simpa using hq)
 exact ⟨h1',vss,h3.1,h3.2,h,Hh,s3⟩
theorem aqz {B:Nat} {w:World} {H:KT.H K} {X:List aak} {id j sz:Nat} {i:Int} (s:Sat B w (dH K ρ H++X)) (hg:get H id=some (.elt j i sz)):asu ρ id j sz i:=(s.imp (aa4 (ρ:=ρ) hg)).pure
theorem aej {α:Type} {d:α} {xs:List α} {i:Int} (h:0≤i∧i<(xs.length:Int)):xs[i.toNat]?=some (atL d xs i):=by
 have:i.toNat<xs.length:=by omega
 simp [atL,this]
theorem asJ {B:Nat} {w:World} {H:KT.H K} {X:List aak} {id j c o:Nat} {i:Int} {xs:List (K.T c)} {f:Fl K.T K.M} (s:Sat B w (dH K ρ H++X)) (hg:get H j=some (.row c xs)) (he:asu ρ id j (K.sz c) i) (hf:(K.vw c (atL (K.df c) xs i))[o]?=some f) :
  ∃ v,w.cell? ⟨(ρ.p id).1,(ρ.p id).2+o,none⟩=some v∧∃ L,Sat B w (pcS K f v::L)∧Ent (pcS K f v::L) (act K ρ j (.row c xs)::(dH K ρ (del H j)++X)):=by
 obtain ⟨h1',vss,h2,h3,s2⟩:=af2 s hg
 obtain ⟨hi,b,o',hA,hp⟩:=he
 rw [h1'] at hi
 have hx:=aej (d:=K.df c) hi
 have hlt:i.toNat<vss.length:=by omega
 have hvs:vss[i.toNat]?=some vss[i.toNat]:=List.getElem?_eq_getElem hlt
 have hsz:=h3 _ (List.getElem_mem hlt)
 have hol:o<vss[i.toNat].length:=by rw [hsz,← K.sz_ok c (atL (K.df c) xs i)]; exact (List.getElem?_eq_some_iff.1 hf).1
 have hov:(vss[i.toNat])[o]?=some (vss[i.toNat])[o]:=List.getElem?_eq_getElem hol
 have hfl:=ah8 h3 hvs hov
 obtain ⟨r1,r2,r3,r4⟩:=acF s2 (List.mem_cons_self ..)
 refine ⟨(vss[i.toNat])[o],?_,?_⟩
 ·rcases r4 with ⟨r4,_⟩ | ⟨b2,o2,r4,r5⟩
  ·rw [r4] at hA; cases hA
  ·rw [r4] at hA
   cases hA
   rw [hp]
   have:=r5 _ _ hfl
   rw [← Nat.add_assoc] at this
   exact this
 ·obtain ⟨M,p1,_⟩:=af1 (pc:=pcS K) hx hvs
  have p2:=(ah5 (pc:=pcS K) hf hov).1
  have p3:=p1.trans (p2.append_right M)
  refine ⟨_,avC s2 p3,fun k hk =>?_⟩
  have s5:ab0 ((abA (ρ.s j).a xs.length (ρ.s j).c (K.sz c) vss.flatten::ab1 K (pcS K) c xs vss)++(dH K ρ (del H j)++X)) k:=by
   refine abY ?_ hk
   exact (List.Perm.swap ..).trans (List.Perm.cons _ (p3.symm.append_right _))
  obtain ⟨j1,j2,a'',e'',g1,g2⟩:=aau.1 s5
  exact ⟨j1,j2,a'',e'',⟨h1',acw.2 ⟨vss,g1⟩⟩,g2⟩
theorem aBD {B:Nat} {w:World} {H:KT.H K} {X:List aak} {id j c o:Nat} {i:Int} {xs:List (K.T c)} {f:Fl K.T K.M} (s:Sat B w (dH K ρ H++X)) (hg:get H j=some (.ro c xs)) (he:asu ρ id j (K.sz c) i) (hf:(K.vw c (atL (K.df c) xs i))[o]?=some f) :
  w.cell? ⟨(ρ.p id).1,(ρ.p id).2+o,none⟩=some (flV f):=by
 obtain ⟨h,Hh,k1,k2,a,e,⟨h1',h2⟩,hL⟩:=s.imp (aa4 (ρ:=ρ) hg)
 have s2:Sat B w (roS (aex K c) (K.sz c) (ρ.s j).a (ρ.s j).c xs::(dH K ρ (del H j)++X)):=⟨h,Hh,k1,k2,a,e,h2,hL⟩
 obtain ⟨hi,b,o',hA,hp⟩:=he
 rw [h1'] at hi
 have hlt:i.toNat<xs.length:=by omega
 obtain ⟨b2,o2,hA2,_,hc⟩:=(anU s2 (List.mem_cons_self ..)).1.at_ hlt
 rw [hA] at hA2
 cases hA2
 have hx:=aej (d:=K.df c) hi
 have he2:xs[i.toNat]=atL (K.df c) xs i:=(List.getElem?_eq_some_iff.1 hx).2
 have:=hc i.toNat hlt o (flV f) (by rw [he2]; unfold aex; rw [List.getElem?_map,hf]; rfl)
 rw [hp]; exact this
end
section
variable {K:KT} {ρ:Env}
theorem axa {B:Nat} {w:World} {H:KT.H K} {X:Env→List aak} {id j c o n:Nat} {i:Int} {xs:List (K.T c)} {f:Fl K.T K.M} {V0:V} {ch:Ch K.T K.M} (hop:opF K.vw n (.f f)=(V0,some ch)) (hn:aec H≤n) (hX:∀ ρ',aaL n ρ ρ'→X ρ=X ρ')
  (s:Sat B w (dH K ρ H++X ρ)) (hg:get H j=some (.row c xs)) (he:asu ρ id j (K.sz c) i) (hf:(K.vw c (atL (K.df c) xs i))[o]?=some f) :
  ∃ ρ',aaL n ρ ρ'∧Sat B w (dH K ρ' ((n,ch)::(j,.hole c xs i o V0)::del H j)++X ρ')∧w.cell? ⟨(ρ.p id).1,(ρ.p id).2+o,none⟩=some (aaE ρ' V0):=by
 obtain ⟨h1',vss,h2,h3,s2⟩:=af2 s hg
 obtain ⟨hi,b,o',hA,hp⟩:=he
 rw [h1'] at hi
 have hx:=aej (d:=K.df c) hi
 have hlt:i.toNat<vss.length:=by omega
 have hvs:vss[i.toNat]?=some vss[i.toNat]:=List.getElem?_eq_getElem hlt
 have hsz:=h3 _ (List.getElem_mem hlt)
 have hol:o<vss[i.toNat].length:=by rw [hsz,← K.sz_ok c (atL (K.df c) xs i)]; exact (List.getElem?_eq_some_iff.1 hf).1
 have hov:(vss[i.toNat])[o]?=some (vss[i.toNat])[o]:=List.getElem?_eq_getElem hol
 have hfl:=ah8 h3 hvs hov
 obtain ⟨r1,r2,r3,r4⟩:=acF s2 (List.mem_cons_self ..)
 have hcell:w.cell? ⟨(ρ.p id).1,(ρ.p id).2+o,none⟩=some (vss[i.toNat])[o]:=by
  rcases r4 with ⟨r4,_⟩ | ⟨b2,o2,r4,r5⟩
  ·rw [r4] at hA; cases hA
  ·rw [r4] at hA
   cases hA
   rw [hp]
   have:=r5 _ _ hfl
   rw [← Nat.add_assoc] at this
   exact this
 obtain ⟨M,p1,p1'⟩:=af1 (pc:=pcS K) hx hvs
 have p2:=(ah5 (pc:=pcS K) hf hov).1
 have p3:=p1.trans (p2.append_right M)
 have s3:Sat B w (pcS K f (vss[i.toNat])[o]::((abA (ρ.s j).a xs.length (ρ.s j).c (K.sz c) vss.flatten::(fsS (pcS K) ((K.vw c (atL (K.df c) xs i)).eraseIdx o) ((vss[i.toNat]).eraseIdx o)++M))++(dH K ρ (del H j)++X ρ))):=s2.perm (by
  refine (List.Perm.cons _ (p3.append_right _)).trans ?_
  exact List.Perm.swap ..)
 obtain ⟨hh,Hh,k1,k2,a,e,hA1,hL⟩:=s3
 have hfF:fS K ρ (.f f) (vss[i.toNat])[o] k1:=hA1
 obtain ⟨ρ',ha,hv,hd⟩:=awF (Nat.zero_le _) hfF
 rw [hop] at hv hd
 simp only at hv hd
 refine ⟨ρ',ha,?_,by rw [hcell,hv]⟩
 have hgt:=agl hg
 have hjn:j<n:=Nat.lt_of_lt_of_le hgt.1 hn
 obtain ⟨q1,q2,a',e',g1,g2⟩:=aau.1 hL
 rw [ab9 ha (del H j) (Nat.le_trans adB hn),hX _ ha] at g2
 refine ⟨hh,Hh,k1,k2,a,e,hd,q1,q2,a',e',⟨by rw [← (ha j hjn).2.1]; exact h1',?_⟩,g2⟩
 rw [← (ha j hjn).2.1]
 refine ⟨atL (K.df c) xs i,vss,vss[i.toNat],M,⟨hx,hvs,by rw [← hv]; exact hov⟩,fun x' =>?_,(List.getElem?_eq_some_iff.1 hf).1,g1⟩
 have:=p1' x' vss[i.toNat]
 rw [anQ hvs] at this
 exact this
theorem auK {B:Nat} {w:World} {id c o:Nat} {i:Int} {xs:List (K.T c)} {u:V} {f':Fl K.T K.M} {x':K.T c} {L:List aak} (hx':K.vw c x'=(K.vw c (atL (K.df c) xs i)).set o f')
  (s:Sat B w (act K ρ id (.hole c xs i o u)::pcS K f' (aaE ρ u)::L)):Sat B w ((fun h =>(ρ.s id).n=(xs.set i.toNat x').length∧rwS K c (xs.set i.toNat x') (ρ.s id).a (ρ.s id).c h)::L):=by
 obtain ⟨hh,Hh,k1,k2,a,e,⟨h1,x,vss,vs,N,⟨hx,hvs,hov⟩,hp,ho,hst⟩,hL⟩:=s
 obtain rfl:x=atL (K.df c) xs i:=by unfold atL; rw [hx]; rfl
 have s2:ab0 ((abA (ρ.s id).a xs.length (ρ.s id).c (K.sz c) vss.flatten::(fsS (pcS K) ((K.vw c (atL (K.df c) xs i)).eraseIdx o) (vs.eraseIdx o)++N))++(pcS K f' (aaE ρ u)::L)) hh:=aau.2 ⟨k1,k2,a,e,hst,hL⟩
 have hf:(K.vw c (atL (K.df c) xs i))[o]?=some (K.vw c (atL (K.df c) xs i))[o]:=List.getElem?_eq_getElem ho
 have p2:=(ah5 (pc:=pcS K) hf hov).2 f' (aaE ρ u)
 rw [anQ hov,← hx'] at p2
 have s3:ab0 ((abA (ρ.s id).a xs.length (ρ.s id).c (K.sz c) vss.flatten::ab1 K (pcS K) c (xs.set i.toNat x') vss)++L) hh:=by
  refine abY ?_ s2
  refine List.Perm.cons _ ?_
  refine List.Perm.trans ?_ (((hp x').trans (p2.append_right N)).symm.append_right L)
  simp only [List.cons_append,List.append_assoc]
  exact (List.perm_middle (l₁:=fsS (pcS K) ((K.vw c (atL (K.df c) xs i)).eraseIdx o) (vs.eraseIdx o)++N)).trans (by rw [List.append_assoc])
 obtain ⟨j1,j2,a'',e'',g1,g2⟩:=aau.1 s3
 refine ⟨hh,Hh,j1,j2,a'',e'',⟨by rw [List.length_set]; exact h1,acw.2 ⟨vss,?_⟩⟩,g2⟩
 rw [List.length_set]; exact g1
end
section
variable (K:KT)
def opn (n:Nat) (H:KT.H K) (id o:Nat):Option (Bool×KT.H K×V) :=
 match get H id with
 | some (.cells fs) =>match fs[o]? with
  | some f =>match opF K.vw n f with
   | (v,none) =>some (false,H,v)
   | (v,some c) =>match Nat.ble (aec H) n with
    | true =>some (true,(n,c)::(id,.cells (fs.set o (.v v)))::del H id,v)
    | false =>none
  | none =>none
 | some (.elt j i sz) =>match get H j with
  | some (.row c xs) =>match Nat.beq sz (K.sz c) with
   | true =>match (K.vw c (atL (K.df c) xs i))[o]? with
    | some (.ro c' ys) =>match Nat.ble (aec H) n with
     | true =>some (true,(n,.ro c' ys)::(j,.row c xs)::del H j,.sl n)
     | false =>none
    | some f =>match scF f with
     | some v =>some (false,H,v)
     | none =>match opF K.vw n (.f f) with
      | (v,some ch) =>match Nat.ble (aec H) n with
       | true =>some (true,(n,ch)::(j,.hole c xs i o v)::del H j,v)
       | false =>none
      | (_,none) =>none
    | none =>none
   | false =>none
  | some (.ro c xs) =>match Nat.beq sz (K.sz c) with
   | true =>match (K.vw c (atL (K.df c) xs i))[o]? with
    | some f =>(scF f).map fun v =>(false,H,v)
    | none =>none
   | false =>none
  | some (.rr c xss) =>match Nat.beq sz 1 && Nat.beq o 0 && Nat.ble (aec H) n with
   | true =>some (true,(n,.ro c (atL [] xss i))::(j,.rr c xss)::del H j,.sl n)
   | false =>none
  | _ =>none
 | _ =>none
end
section
variable {K:KT}
theorem ap6 {n:Nat} {H H':KT.H K} {id o:Nat} {v:V} {ch:Bool} (h:opn K n H id o=some (ch,H',v)) {ρ:Env} {B:Nat} {w:World} {X:Env→List aak} (hX:ch=true→∀ ρ',aaL n ρ ρ'→X ρ=X ρ') (s:Sat B w (dH K ρ H++X ρ)) :
  ∃ ρ',(aaL n ρ ρ'∧(ch=false→ρ'=ρ))∧Sat B w (dH K ρ' H'++X ρ')∧w.cell? ⟨(ρ.p id).1,(ρ.p id).2+o,none⟩=some (aaE ρ' v):=by
 unfold opn at h
 split at h
 ·rename_i fs hg
  split at h
  ·rename_i f hf
   obtain ⟨vs,u,hu,hl,s2,hc⟩:=az8 s hg hf
   have p1:=(ah5 (pc:=fS K ρ) hf hu).1
   have s3:=avC s2 p1
   split at h
   ·rename_i v' hop
    cases h
    obtain ⟨hh,Hh,k1,k2,a,e,hA,hL⟩:=s3
    -- a value that brings nothing with it
    have key:u=aaE ρ v:=by
     cases f with
     | v x =>cases hop; exact hA
     | f x =>
      have hp:pcS K x u k1:=hA
      cases x<;>simp only [opF,Prod.mk.injEq,reduceCtorEq,and_false,and_true] at hop<;>subst hop<;>rw [aa6] at hp<;>simp only [aaE,agQ]<;>exact hp
    exact ⟨ρ,⟨aaL.refl _ _,fun _ =>rfl⟩,s,by rw [hc,key]⟩
   ·rename_i v' c hop
    split at h
    ·rename_i hb
     cases h
     have hn:aec H≤n:=Nat.le_of_ble_eq_true hb
     have hgt:=agl hg
     obtain ⟨hh,Hh,k1,k2,a,e,hA,hL⟩:=s3
     have hft:aAn f≤n:=Nat.le_trans (avh hf) (Nat.le_trans hgt.2 hn)
     obtain ⟨ρ',ha,hv,hd⟩:=awF hft hA
     rw [hop] at hv hd
     simp only at hv hd
     refine ⟨ρ',⟨ha,fun e =>by cases e⟩,?_,by rw [hc,hv]⟩
     have hid:id<n:=Nat.lt_of_lt_of_le hgt.1 hn
     have e0:=al4 ha (fs.eraseIdx o) (vs.eraseIdx o) (Nat.le_trans alf (Nat.le_trans hgt.2 hn))
     have e1:dH K ρ (del H id)=dH K ρ' (del H id):=ab9 ha _ (Nat.le_trans adB hn)
     rw [e0,e1,(ha id hid).1,hX rfl _ ha] at hL
     have p2:=(ah5 (pc:=fS K ρ') hf hu).2 (.v v) u
     rw [anQ hu] at p2
     refine ⟨hh,Hh,k1,k2,a,e,hd,?_⟩
     obtain ⟨q1,q2,a',e',hp,hq⟩:=hL
     have s6:ab0 ((pts (ρ'.p id).1 (ρ'.p id).2 vs::fsS (fS K ρ') (fs.set o (.v v)) vs)++(dH K ρ' (del H id)++X ρ')) k2:=by
      refine ⟨q1,q2,a',e',hp,abY (p2.symm.append_right _) ?_⟩
      exact (al6 (L:=fsS (fS K ρ') (fs.eraseIdx o) (vs.eraseIdx o)++(dH K ρ' (del H id)++X ρ')) hv) q2 hq
     obtain ⟨j1,j2,a'',e'',g1,g2⟩:=aau.1 s6
     exact ⟨j1,j2,a'',e'',⟨vs,g1⟩,g2⟩
    ·cases h
  ·cases h
 ·rename_i j i sz hj0
  have he0:=aqz s hj0
  split at h
  ·rename_i c xs hj
   split at h
   ·rename_i hsz
    obtain rfl:=Nat.eq_of_beq_eq_true hsz
    have he:=he0
    split at h
    ·rename_i c' ys hf
     split at h
     ·rename_i hb
      cases h
      have hn:aec H≤n:=Nat.le_of_ble_eq_true hb
      obtain ⟨u,hc,L,s2,back⟩:=asJ s hj he hf
      have hgt:=agl hj
      have hjn:j<n:=Nat.lt_of_lt_of_le hgt.1 hn
      obtain ⟨hh,Hh,k1,k2,a,e,hA,hL⟩:=s2
      have hA':=hA
      rw [aa6] at hA'
      obtain ⟨A,cap,hu,hro⟩:=hA'
      have s3:Sat B w (roS (aex K c') (K.sz c') A cap ys::L):=⟨hh,Hh,k1,k2,a,e,hro,hL⟩
      have ha:=aca ρ n ⟨A,ys.length,cap⟩
      have e1:dH K ρ (del H j)=dH K (ρ.setS n ⟨A,ys.length,cap⟩) (del H j):=ab9 ha _ (Nat.le_trans adB hn)
      have e2:act K ρ j (.row c xs)=act K (ρ.setS n ⟨A,ys.length,cap⟩) j (.row c xs):=adH ha hjn _ (Nat.le_trans hgt.2 hn)
      refine ⟨_,⟨ha,fun e =>by cases e⟩,?_,by rw [hc,hu]; simp [aaE,Env.setS]⟩
      have s4:=s3.imp avP
      refine s4.imp fun k hk =>?_
      refine aaS (fun k hk =>?_) (abO (fun k hk =>?_) hk)
      ·exact ⟨by simp [Env.setS],by simpa [Env.setS] using hk⟩
      ·have fold:∀ q:Hp,roS (aex K c') (K.sz c') A cap ys q→pcS K (.ro c' ys) u q:=fun q hq =>(aa6 (K:=K)).2 (show pcW K (obS K) (rwS K) (.ro c' ys) u q from ⟨A,cap,hu,hq⟩)
       have:=back k (aaS fold hk)
       rw [e1,e2,hX rfl _ ha] at this
       exact this
     ·cases h
    ·rename_i f _ hf
     split at h
     ·rename_i v' hv
      cases h
      obtain ⟨u,hc,L,⟨hh,Hh,k1,k2,a,e,hA,hL⟩,_⟩:=asJ s hj he hf
      exact ⟨ρ,⟨aaL.refl _ _,fun _ =>rfl⟩,s,by rw [hc,aDk hv hA]⟩
     ·split at h
      ·rename_i v' ch' hop
       split at h
       ·rename_i hb
        cases h
        obtain ⟨ρ',ha,hs,hc⟩:=axa hop (Nat.le_of_ble_eq_true hb) (hX rfl) s hj he hf
        exact ⟨ρ',⟨ha,fun e =>by cases e⟩,hs,hc⟩
       ·cases h
      ·cases h
    ·cases h
   ·cases h
  ·rename_i c xs hj
   split at h
   ·rename_i hsz
    obtain rfl:=Nat.eq_of_beq_eq_true hsz
    have he:=he0
    split at h
    ·rename_i f hf
     simp only [Option.map_eq_some_iff,Prod.mk.injEq] at h
     obtain ⟨v',hv,rfl,rfl,rfl⟩:=h
     exact ⟨ρ,⟨aaL.refl _ _,fun _ =>rfl⟩,s,by rw [aBD s hj he hf,aBq hv]⟩
    ·cases h
   ·cases h
  ·rename_i c xss hj
   split at h
   ·rename_i hB
    cases h
    simp only [Bool.and_eq_true] at hB
    obtain ⟨⟨b1,b2⟩,b3⟩:=hB
    obtain rfl:=Nat.eq_of_beq_eq_true b1
    obtain rfl:=Nat.eq_of_beq_eq_true b2
    have hn:aec H≤n:=Nat.le_of_ble_eq_true b3
    have hgt:=agl hj
    have hjn:j<n:=Nat.lt_of_lt_of_le hgt.1 hn
    obtain ⟨hi,b,o',hA,hp⟩:=he0
    obtain ⟨hh,Hh,k1,k2,a,e,⟨h1',ps,h2⟩,hL⟩:=s.imp (aa4 (ρ:=ρ) hj)
    rw [h1'] at hi
    have hx:=aej (d:=([]:List (K.T c))) hi
    have s2:Sat B w (afr _::(dH K ρ (del H j)++X ρ)):=⟨hh,Hh,k1,k2,a,e,h2,hL⟩
    obtain ⟨q,hq,_,b2,o2,hA2,_,hc⟩:=(ak4 s2 (List.mem_cons_self ..)).2 _ _ hx
    rw [hA] at hA2
    cases hA2
    have ha:=aca ρ n ⟨q.1,(atL [] xss i).length,q.2⟩
    have e1:dH K ρ (del H j)=dH K (ρ.setS n ⟨q.1,(atL [] xss i).length,q.2⟩) (del H j):=ab9 ha _ (Nat.le_trans adB hn)
    refine ⟨_,⟨ha,fun e =>by cases e⟩,?_,by rw [hp,Nat.mul_one,Nat.add_zero,hc]; simp [aaE,Env.setS]⟩
    have s3:=s2.imp ak5
    refine s3.imp fun k hk =>?_
    rw [e1,hX rfl _ ha] at hk
    refine aaS (fun k hk =>?_) (abO (fun k hk =>aaS (fun k hk =>?_) hk) hk)
    ·refine ⟨by simp [Env.setS],?_⟩
     have:=adS (Ψ:=fun u =>Sl (aex K c) (K.sz c) u u.heap.size q.1 (atL [] xss i)∧(atL [] xss i).length≤q.2) (fun u hu =>by
      obtain ⟨q',hq',hs,_⟩:=hu.2 _ _ hx
      rw [hq] at hq'
      cases hq'
      exact hs) k hk
     have this2:roS (aex K c) (K.sz c) q.1 q.2 (atL [] xss i) k:=this
     simpa [Env.setS] using this2
    ·have hjn':j≠n:=by omega
     exact ⟨by simpa [Env.setS,hjn'] using h1',ps,by simpa [Env.setS,hjn'] using hk⟩
   ·cases h
  ·cases h
 ·cases h
end
end
end Go.Proofs.YtjjbdbbmdhncjaaGreat
