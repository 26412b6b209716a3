/- Evaluation by itself,2: operations on registers alone. No program occurs here. Objects that are owned; a range over a function whose rounds are told what lies at their argument. No program occurs here. What a call has made and hands back,held to be read: no program occurs here. What is held to be read by many; rows of things that hold a list of numbers; entailments in the world. No program occurs here. Rows of things each of which holds a list of numbers that is only read. No program occurs here. The reference's data: memories,records,frames,events; how they lie; words for what its functions answer. No program occurs here. Evaluation by itself,3: what lies in memory: fields,objects,rows. No program occurs here. Evaluation by itself,4: what is held,by numbers; fields opened; cells read and written. No program occurs here. Evaluation by itself,5: reading. No program occurs here. -/
import Derived.Test.YtidhehdanppcoaaGreatCnaa
import Derived.Laws.StructEq
import Derived.ChangeKeysEq
import Derived.RangeFuncFrom
import Derived.RangeFuncLeaves
import Derived.RangeFuncBound
set_option linter.all false
namespace Go.Proofs.YtidhehdanppcoaaGreat
section
open Go Go.RowKit
def amk:V→Option (IntKind×Int×Bool)
 | .i k x =>some (k,x,false)
 | .l k x =>some (k,x,true)
 | _ =>none
theorem alg {ρ:Env} {v:V} {k:IntKind} {x:Int} {l:Bool} (h:amk v=some (k,x,l)):aay ρ v=.int k x:=by
 cases v<;>simp [amk] at h<;>obtain ⟨rfl,rfl,_⟩:=h<;>rfl
def awt:IntKind→IntKind→Bool
 | .i64,.i64 =>true
 | .u64,.u64 =>true
 | .u8,.u8 =>true
 | .u16,.u16 =>true
 | .i32,.i32 =>true
 | _,_ =>false
theorem ak5 {k k':IntKind} (h:awt k k'=true):k=k':=by cases k<;>cases k'<;>first | rfl | cases h
def mkI (l:Bool) (k:IntKind) (x:Int):V:=match l with
 | true =>.l k x
 | false =>.i k x
theorem aeW {ρ:Env} {l:Bool} {k:IntKind} {x:Int}:aay ρ (mkI l k x)=.int k x:=by cases l<;>rfl
def mkP (l:Bool) (P:Prop) (d:Decidable P):V:=match l with
 | true =>.t (@decide P d)
 | false =>.p P d
theorem aoh {ρ:Env} {l:Bool} {P:Prop} {d:Decidable P}:aay ρ (mkP l P d)=.bool (@decide P d):=by cases l<;>rfl
def nzL:Int→Bool
 | .ofNat 0 =>false
 | _ =>true
def nnL:Int→Bool
 | .ofNat _ =>true
 | _ =>false
theorem aJZ {b:Int} (h:nzL b=true):b≠0:=by
 intro e; subst e; cases h
theorem aqQ {b:Int} (h:nnL b=true):0≤b:=by
 cases b with
 | ofNat n =>exact Int.natCast_nonneg n
 | negSucc n =>cases h
def nzG (l:Bool) (b:Int):Option (List Gd):=match l with
 | true =>match nzL b with
  | true =>some []
  | false =>none
 | false =>some [⟨b≠0,inferInstance⟩]
theorem aFM {l:Bool} {b:Int} {gs:List Gd} (h:nzG l b=some gs) (hg:∀ g∈gs,g.P):b≠0:=by
 unfold nzG at h
 cases l with
 | true =>
  simp only at h
  split at h
  ·rename_i e; exact aJZ e
  ·cases h
 | false =>cases h; exact hg _ (List.mem_singleton.2 rfl)
def nnG (l:Bool) (b:Int):Option (List Gd):=match l with
 | true =>match nnL b with
  | true =>some []
  | false =>none
 | false =>some [⟨0≤b,inferInstance⟩]
theorem aFN {l:Bool} {b:Int} {gs:List Gd} (h:nnG l b=some gs) (hg:∀ g∈gs,g.P):0≤b:=by
 unfold nnG at h
 cases l with
 | true =>
  simp only at h
  split at h
  ·rename_i e; exact aqQ e
  ·cases h
 | false =>cases h; exact hg _ (List.mem_singleton.2 rfl)
def biI (op:BinOp) (k:IntKind) (a b:Int) (l lb:Bool):Option (List Gd×V) :=
 match op with
 | .add =>some ([],mkI l k (k.wrap (a+b)))
 | .sub =>some ([],mkI l k (k.wrap (a-b)))
 | .mul =>some ([],mkI l k (k.wrap (a*b)))
 | .quo =>(nzG lb b).map fun g =>(g,mkI l k (k.wrap (a.tdiv b)))
 | .rem =>(nzG lb b).map fun g =>(g,mkI l k (a.tmod b))
 | .and =>some ([],mkI l k (k.wrap (BitVec.ofInt k.bits a &&& BitVec.ofInt k.bits b).toNat))
 | .or =>some ([],mkI l k (k.wrap (BitVec.ofInt k.bits a ||| BitVec.ofInt k.bits b).toNat))
 | .xor =>some ([],mkI l k (k.wrap (BitVec.ofInt k.bits a ^^^ BitVec.ofInt k.bits b).toNat))
 | .andNot =>some ([],mkI l k (k.wrap (BitVec.ofInt k.bits a &&& ~~~ BitVec.ofInt k.bits b).toNat))
 | .lss =>some ([],mkP l (a<b) inferInstance)
 | .leq =>some ([],mkP l (a≤b) inferInstance)
 | .gtr =>some ([],mkP l (b<a) inferInstance)
 | .geq =>some ([],mkP l (b≤a) inferInstance)
 | .eql =>some ([],mkP l (a=b) inferInstance)
 | .neq =>some ([],mkP l (a≠b) inferInstance)
 | _ =>none
def shI (op:BinOp) (k:IntKind) (a b:Int) (l lb:Bool):Option (List Gd×V) :=
 match op with
 | .shl =>(nnG lb b).map fun g =>(g,mkI l k (k.wrap (a*2 ^ min b.toNat k.bits)))
 | .shr =>(nnG lb b).map fun g =>(g,mkI l k (a.fdiv (2 ^ min b.toNat k.bits)))
 | _ =>none
def aME:BinOp→Bool
 | .shl =>true
 | .shr =>true
 | _ =>false
def av0:V→Option Bool
 | .p P d =>some (@decide P d)
 | .b x =>some x
 | .t x =>some x
 | _ =>none
theorem anF {ρ:Env} {v:V} {x:Bool} (h:av0 v=some x):aay ρ v=.bool x:=by
 cases v<;>simp [av0] at h<;>subst h<;>rfl
def aKU (P:Program) (T:TypeId):Bool:=match P.underlying T with
 | some .bool =>true
 | _ =>false
def aiG (P:Program) (T:TypeId):Option TypeId:=match P.underlying T with
 | some (.slice E) =>some E
 | _ =>none
theorem acC {P:Program} {T E:TypeId} (h:aiG P T=some E):P.underlying T=some (.slice E):=by
 unfold aiG at h; split at h
 ·cases h; assumption
 ·cases h
def aKi (P:Program) (T:TypeId):Option IntKind:=match P.underlying T with
 | some (.int k) =>some k
 | _ =>none
theorem ayH {P:Program} {T:TypeId} {k:IntKind} (h:aKi P T=some k):P.underlying T=some (.int k):=by
 unfold aKi at h; split at h
 ·cases h; assumption
 ·cases h
def aLj (P:Program) (T:TypeId) (a b:V):Option Gd :=
 match P.underlying T with
 | some (.int _) =>match amk a with
  | some (k,n,_) =>match amk b with
   | some (k',m,_) =>match awt k k' with
    | true =>some ⟨n=m,inferInstance⟩
    | false =>none
   | none =>none
  | none =>none
 | some .bool =>match av0 a with
  | some x =>match av0 b with
   | some y =>some ⟨x=y,inferInstance⟩
   | none =>none
  | none =>none
 | _ =>none
def aIP (g h:Gd):Gd:=⟨g.P∧h.P,@instDecidableAnd _ _ g.d h.d⟩
def aLm (P:Program) (rec:TypeId→List V→List V→Option Gd) (xs ys:List V):List Field→Option Gd
 | [] =>some ⟨True,inferInstance⟩
 | f :: fs =>match decide (f.name = "_") with
  | true =>none
  | false =>match aLm P rec xs ys fs with
   | some h =>match P.underlying f.type with
    | some (.struct _) =>match P.info? f.type with
     | some _ =>match rec f.type ((xs.drop f.offset).take (P.cellsOf f.type)) ((ys.drop f.offset).take (P.cellsOf f.type)) with
      | some g =>some (aIP g h)
      | none =>none
     | none =>none
    | _ =>match xs[f.offset]? with
     | some a =>match ys[f.offset]? with
      | some b =>match aLj P f.type a b with
       | some g =>some (aIP g h)
       | none =>none
      | none =>none
     | none =>none
   | none =>none
def aKE (P:Program):Nat→TypeId→List V→List V→Option Gd
 | 0,_,_,_ =>none
 | d+1,T,xs,ys =>match P.underlying T with
  | some (.struct _) =>match P.stoodInHeld T with
   | true =>none
   | false =>aLm P (aKE P d) xs ys (P.fieldsOf T).toList
  | _ =>none
section
variable {P:Program} {ρ:Env}
theorem aIh {T:TypeId} {a b:V} {g:Gd} (h:aLj P T a b=some g) (d:Nat) (w:World):(Op.equalIn (d+1) T (aay ρ a) (aay ρ b)).run P w=.ok (@decide g.P g.d) w:=by
 unfold aLj at h
 split at h
 ·rename_i k0 hT
  split at h
  ·rename_i k n _ ha
   split at h
   ·rename_i k' m _ hb
    split at h
    ·rename_i hk
     cases h
     obtain rfl:=ak5 hk
     rw [alg ha,alg hb]
     have e:(n == m)=decide (n=m):=by by_cases hh:n=m<;>simp [hh]
     simp [run_equalIn_int w d T k k0 n m hT,e]
    ·cases h
   ·cases h
  ·cases h
 ·rename_i hT
  split at h
  ·rename_i x ha
   split at h
   ·rename_i y hb
    cases h
    rw [anF ha,anF hb]
    have e:(x == y)=decide (x=y):=by cases x<;>cases y<;>rfl
    simp [run_equalIn_bool' w d T x y hT,e]
   ·cases h
  ·cases h
 ·cases h
theorem avM {l:List V} {i:Nat} {v:V} (h:l[i]?=some v):(aah ρ l).toArray[i]?=some (aay ρ v):=by
 rw [aaS]; simp [h]
theorem auF (l:List V) (o k:Nat):List.take k (List.drop o (aah ρ l))=aah ρ ((l.drop o).take k):=by rw [aaS,aaS,List.map_take,List.map_drop]
theorem aBZ {rec:TypeId→List V→List V→Option Gd} {D:Nat} (hD:0<D) (hr:∀ T xs ys g,rec T xs ys=some g→∀ w,(Op.equalIn D T (.agg (aah ρ xs).toArray) (.agg (aah ρ ys).toArray)).run P w=.ok (@decide g.P g.d) w) {xs ys:List V} :
  ∀ {fs:List Field} {g:Gd},aLm P rec xs ys fs=some g→∀ w,(Op.eqFields D (aah ρ xs).toArray (aah ρ ys).toArray fs).run P w=.ok (@decide g.P g.d) w
 | [],g,h,w =>by cases h; simp [Op.eqFields]
 | f::fs,g,h,w =>by
  obtain ⟨D,rfl⟩:∃ D',D=D'+1:=⟨D-1,by omega⟩
  have fin : ∀ {g0 g1 : Gd} {a b : Value},f.name ≠ "_" → (part f.type (aah ρ xs).toArray f.offset).run P w = .ok a w → (part f.type (aah ρ ys).toArray f.offset).run P w = .ok b w → (Op.equalIn (D + 1) f.type a b).run P w = .ok (@decide g0.P g0.d) w →
    (Op.eqFields (D+1) (aah ρ xs).toArray (aah ρ ys).toArray fs).run P w=.ok (@decide g1.P g1.d) w→(Op.eqFields (D+1) (aah ρ xs).toArray (aah ρ ys).toArray (f::fs)).run P w=.ok (@decide (aIP g0 g1).P (aIP g0 g1).d) w:=by
   intro g0 g1 a b hn h1 h2 h3 h4
   simp only [Op.eqFields]
   rw [if_pos hn]
   simp only [Sem.run_bind,h1,h2,h3,Result.andThen_ok]
   have:=g0.d
   have:=g1.d
   by_cases hp:g0.P
   ·simp [hp,h4,aIP]
   ·simp [hp,aIP]
  unfold aLm at h
  split at h
  ·cases h
  ·rename_i hn
   have hn' : f.name ≠ "_" := by simpa using hn
   split at h
   ·rename_i g1 h1
    have ih:=aBZ hD hr h1 w
    split at h
    ·rename_i hu
     split at h
     ·rename_i i hi
      split at h
      ·rename_i g0 h0
       cases h
       have hp:∀ l:List V,(part f.type (aah ρ l).toArray f.offset).run P w=.ok (.agg (aah ρ ((l.drop f.offset).take (P.cellsOf f.type))).toArray) w:=fun l =>by
        simp [part,isAgg,run_underlying hu,run_sizeOf w hi,auF]
       exact fin hn' (hp xs) (hp ys) (hr _ _ _ _ h0 w) ih
      ·cases h
     ·cases h
    ·rename_i hu
     split at h
     ·rename_i a ha
      split at h
      ·rename_i b hb
       split at h
       ·rename_i g0 h0
        cases h
        have hk:P.plainKey f.type=true:=by
         unfold aLj at h0
         unfold Program.plainKey
         split at h0
         ·rename_i hT; rw [hT]
         ·rename_i hT; rw [hT]
         ·cases h0
        exact fin hn' (run_part_plain w hk (avM ha)) (run_part_plain w hk (avM hb)) (aIh h0 D w) ih
       ·cases h
      ·cases h
     ·cases h
   ·cases h
theorem axf:∀ {d:Nat} {T:TypeId} {xs ys:List V} {g:Gd},aKE P d T xs ys=some g→∀ (D:Nat),d<D→∀ w,(Op.equalIn D T (.agg (aah ρ xs).toArray) (.agg (aah ρ ys).toArray)).run P w=.ok (@decide g.P g.d) w
 | 0,_,_,_,_,h,_,_,_ =>by cases h
 | d+1,T,xs,ys,g,h,D,hD,w =>by
  obtain ⟨D,rfl⟩:∃ D',D=D'+1:=⟨D-1,by omega⟩
  unfold aKE at h
  split at h
  ·rename_i fs hu
   split at h
   ·cases h
   ·rename_i hs
    rw [run_equalIn_struct w D T _ _ (by unfold Program.fieldsOf; rw [hu]) hs]
    exact aBZ (by omega) (fun T xs ys g h w =>axf h D (by omega) w) h w
  ·cases h
end
def biV (P:Program) (op:BinOp) (T:TypeId) (x y:V):Option (List Gd×V) :=
 match amk x with
 | some (k,a,l) =>match amk y with
  | some (k',b,l') =>match aME op with
   | true =>shI op k a b (l && l') l'
   | false =>match awt k k' with
    | true =>biI op k a b (l && l') l'
    | false =>none
  | none =>none
 | none =>match aKU P T with
  | true =>match av0 x with
   | some a =>match av0 y with
    | some b =>match op with
     | .eql =>some ([],.p (a=b) inferInstance)
     | .neq =>some ([],.p (a≠b) inferInstance)
     | _ =>none
    | none =>none
   | none =>none
  | false =>match x with
   | .agg xs =>match y with
    | .agg ys =>match P.eqGuardType P.depth T with
     | true =>none
     | false =>match op with
      | .eql =>(aKE P 5 T xs ys).map fun g =>([],.p g.P g.d)
      | .neq =>(aKE P 5 T xs ys).map fun g =>([],.p (¬ g.P) (@instDecidableNot _ g.d))
      | _ =>none
    | _ =>none
   | _ =>none
def unV (op:UnOp) (x:V):Option V :=
 match op with
 | .not =>match x with
  | .p P d =>some (.p (¬ P) inferInstance)
  | .b x =>some (.b (!x))
  | .t x =>some (.t (!x))
  | _ =>none
 | .neg =>match amk x with
  | some (k,a,l) =>some (mkI l k (k.wrap (0-a)))
  | none =>none
 | .xor =>match amk x with
  | some (k,a,l) =>some (mkI l k (k.wrap (BitVec.ofInt k.bits (if k.signed then -1 else k.max) ^^^ BitVec.ofInt k.bits a).toNat))
  | none =>none
 | _ =>none
def aKf (L:Nat→Option Nat):V→Option V
 | .sl id =>match L id with
  | some n =>some (.i .i64 ((n:Nat):Int))
  | none =>none
 | .c (.slice none 0 0) =>some (.l .i64 0)
 | .vw _ _ m _ =>some (.l .i64 ((m:Nat):Int))
 | .vs _ _ k _ =>some (.i .i64 ((k.toNat:Nat):Int))
 | _ =>none
def buV (P:Program) (L:Nat→Option Nat) (R:aa6) (bu:Builtin) (xs:List Operand) (ts:List TypeId):Option (List Gd×V) :=
 match bu with
 | .len =>match xs,ts with
  | [x],[T] =>match aiG P T with
   | some _ =>match evO R x with
    | some v =>(aKf L v).map fun v =>([],v)
    | none =>none
   | none =>none
  | _,_ =>none
 | .min =>match xs with
  | [x,y] =>match evO R x with
   | some a =>match evO R y with
    | some b =>match amk a with
     | some (k,n,l) =>match amk b with
      | some (_,m,l') =>some ([],mkI (l && l') k (if m<n then m else n))
      | none =>none
     | none =>none
    | none =>none
   | none =>none
  | _ =>none
 | .max =>match xs with
  | [x,y] =>match evO R x with
   | some a =>match evO R y with
    | some b =>match amk a with
     | some (k,n,l) =>match amk b with
      | some (_,m,l') =>some ([],mkI (l && l') k (if n<m then m else n))
      | none =>none
     | none =>none
    | none =>none
   | none =>none
  | _ =>none
 | _ =>none
def evP (P:Program) (L:Nat→Option Nat) (R:aa6) (op:Op):Option (List Gd×V) :=
 match op with
 | .move x =>(evO R x).map fun v =>([],v)
 | .assign x =>(evO R x).map fun v =>([],v)
 | .nilCheck x =>match evO R x with
  | some (.ptr id o) =>some ([],.ptr id o)
  | some (.ifc t v) =>some ([],.ifc t v)
  | _ =>none
 | .pick c x y =>match evO R c with
  | some (.t b) =>(evO R (match b with | true =>x | false =>y)).map fun v =>([],v)
  | _ =>none
 | .binOp op T x y _ =>match evO R x with
  | some a =>match evO R y with
   | some b =>biV P op T a b
   | none =>none
  | none =>none
 | .unOp op _ x =>match evO R x with
  | some a =>(unV op a).map fun v =>([],v)
  | none =>none
 | .convert T T' x =>match evO R x with
  | some a =>match amk a with
   | some (_,n,l) =>match aKi P T with
    | some _ =>match aKi P T' with
     | some k' =>some ([],mkI l k' (k'.wrap n))
     | none =>none
    | none =>none
   | none =>none
  | none =>none
 | .extract x i =>match evO R x with
  | some (.tup l) =>(l[i]?).map fun v =>([],v)
  | _ =>none
 | .fieldAddr T x f =>match evO R x with
  | some (.ptr id o) =>(atO P T f).map fun k =>([],.ptr id (o+k))
  | _ =>none
 | .call c =>match c.callee with
  | .builtin b =>buV P L R b c.args.toList c.argTypes.toList
  | _ =>none
 | .makeFunc (.func f) first captured =>match first.isEmpty with
  | true =>(aH9 R captured.toList).map fun l =>([],.fn f l)
  | false =>none
 | _ =>none
section
variable {P:Program} {n:Nat} {ρ:Env} {R:aa6}
theorem acy {x:Operand} {v:V} {k:IntKind} {a:Int} {l:Bool} (h:evO R x=some v) (hv:amk v=some (k,a,l)):EvalR (dR ρ R) x (.int k a):=alg (ρ:=ρ) hv▸aaO h
theorem ap2 {x:Operand} {v:V} {b:Bool} (h:evO R x=some v) (hv:av0 v=some b):EvalR (dR ρ R) x (.bool b):=anF (ρ:=ρ) hv▸aaO h
theorem aKW {d:Option Tmp} {ty:TypeId} {ps:String} {af:Array Edge} {g:Option (Nat×Bool)} {T T':TypeId} {op:BinOp} {x y:Operand} {k:IntKind} {a b:Int} {l lb:Bool} {gs:List Gd} {v:V}
  (h:biI op k a b l lb=some (gs,v)) (hg:∀ g∈gs,g.P) (hx:EvalR (dR ρ R) x (.int k a)) (hy:EvalR (dR ρ R) y (.int k b)):OP P n ⟨d,.binOp op T x y T',ty,ps,af,g⟩ (dR ρ R) (aay ρ v):=by
 cases op<;>simp only [biI,Option.some.injEq,Prod.mk.injEq,Option.map_eq_some_iff,reduceCtorEq] at h
 case add =>obtain ⟨rfl,rfl⟩:=h; rw [aeW]; exact aJY hx hy rfl
 case sub =>obtain ⟨rfl,rfl⟩:=h; rw [aeW]; exact aJF hx hy rfl
 case mul =>obtain ⟨rfl,rfl⟩:=h; rw [aeW]; exact aJN hx hy rfl
 case quo =>obtain ⟨_,h1,rfl,rfl⟩:=h; rw [aeW]; exact aJJ hx hy (aFM h1 hg) rfl
 case rem =>obtain ⟨_,h1,rfl,rfl⟩:=h; rw [aeW]; exact aJI hx hy (aFM h1 hg) rfl
 case and =>obtain ⟨rfl,rfl⟩:=h; rw [aeW]; exact aJX hx hy rfl
 case or =>obtain ⟨rfl,rfl⟩:=h; rw [aeW]; exact aLH hx hy rfl
 case xor =>obtain ⟨rfl,rfl⟩:=h; rw [aeW]; exact aJE hx hy rfl
 case andNot =>obtain ⟨rfl,rfl⟩:=h; rw [aeW]; exact aBo hx hy rfl
 case lss =>obtain ⟨rfl,rfl⟩:=h; rw [aoh]; exact aJQ hx hy
 case leq =>obtain ⟨rfl,rfl⟩:=h; rw [aoh]; exact aJR hx hy
 case gtr =>obtain ⟨rfl,rfl⟩:=h; rw [aoh]; exact aJS hx hy
 case geq =>obtain ⟨rfl,rfl⟩:=h; rw [aoh]; exact aJT hx hy
 case eql =>obtain ⟨rfl,rfl⟩:=h; rw [aoh]; exact aJU hx hy
 case neq =>obtain ⟨rfl,rfl⟩:=h; rw [aoh]; exact aJL hx hy
theorem aKV {d:Option Tmp} {ty:TypeId} {ps:String} {af:Array Edge} {g:Option (Nat×Bool)} {T T':TypeId} {op:BinOp} {x y:Operand} {u w v:V} {gs:List Gd}
  (h:biV P op T u w=some (gs,v)) (hg:∀ g∈gs,g.P) (hx:evO R x=some u) (hy:evO R y=some w):OP P n ⟨d,.binOp op T x y T',ty,ps,af,g⟩ (dR ρ R) (aay ρ v):=by
 unfold biV at h
 split at h
 ·rename_i k a l hu
  split at h
  ·rename_i k' b l' hw
   split at h
   ·cases op<;>simp only [shI,Option.map_eq_some_iff,Prod.mk.injEq,reduceCtorEq] at h
    case shl =>obtain ⟨_,h1,rfl,rfl⟩:=h; rw [aeW]; exact aJH (acy hx hu) (acy hy hw) (aFN h1 hg) rfl
    case shr =>obtain ⟨_,h1,rfl,rfl⟩:=h; rw [aeW]; exact aJG (acy hx hu) (acy hy hw) (aFN h1 hg) rfl
   ·split at h
    ·rename_i hk
     obtain rfl:=ak5 hk
     exact aKW h hg (acy hx hu) (acy hy hw)
    ·cases h
  ·cases h
 ·split at h
  ·rename_i hT
   have hT':P.underlying T=some .bool:=by
    unfold aKU at hT; split at hT
    ·assumption
    ·cases hT
   split at h
   ·rename_i a ha
    split at h
    ·rename_i b hb
     split at h
     ·cases h; exact aJV hT' (ap2 hx ha) (ap2 hy hb)
     ·cases h; exact aHr hT' (ap2 hx ha) (ap2 hy hb)
     ·cases h
    ·cases h
   ·cases h
  ·split at h
   ·rename_i xs
    split at h
    ·rename_i ys
     split at h
     ·cases h
     ·rename_i hm
      split at h
      ·simp only [Option.map_eq_some_iff,Prod.mk.injEq] at h
       obtain ⟨g0,h0,rfl,rfl⟩:=h
       intro a w s
       simp only [execOp,(aaO (ρ:=ρ) hx).eval s,(aaO (ρ:=ρ) hy).eval s,aay]
       rw [aaa (aaa (run_eqGuard_agg _ _ _ _ _ _ _ hm) |>.trans (by rw [run_eql_struct,axf h0 10000 (by omega) w]; rfl))]
       rfl
      ·simp only [Option.map_eq_some_iff,Prod.mk.injEq] at h
       obtain ⟨g0,h0,rfl,rfl⟩:=h
       intro a w s
       simp only [execOp,(aaO (ρ:=ρ) hx).eval s,(aaO (ρ:=ρ) hy).eval s,aay]
       rw [aaa (aaa (run_eqGuard_agg _ _ _ _ _ _ _ hm) |>.trans (by rw [run_neq_struct,axf h0 10000 (by omega) w]; rfl))]
       have:=g0.d
       by_cases hp:g0.P<;>simp [hp]
      ·cases h
    ·cases h
   ·cases h
theorem aI1 {d:Option Tmp} {ty:TypeId} {ps:String} {af:Array Edge} {g:Option (Nat×Bool)} {T:TypeId} {op:UnOp} {x:Operand} {u v:V} (h:unV op u=some v) (hx:evO R x=some u):OP P n ⟨d,.unOp op T x,ty,ps,af,g⟩ (dR ρ R) (aay ρ v):=by
 unfold unV at h
 split at h
 ·split at h
  ·cases h; exact aJK (aaO hx)
  ·cases h; exact aBm (aaO hx)
  ·cases h; exact aBm (aaO hx)
  ·cases h
 ·split at h
  ·rename_i hi; cases h; rw [aeW]; exact aJM (acy hx hi) rfl
  ·cases h
 ·split at h
  ·rename_i hi; cases h; rw [aeW]; exact aJW (acy hx hi) rfl
  ·cases h
 ·cases h
theorem azE {ρ:Env} {l:List V} {i:Nat} {v:V} (h:l[i]?=some v):(aah ρ l)[i]?=some (aay ρ v):=by rw [aaS,List.getElem?_map,h]; rfl
theorem aKT {d:Option Tmp} {ty:TypeId} {ps:String} {af:Array Edge} {g:Option (Nat×Bool)} {bu:Builtin} {xs:Array Operand} {ts:Array TypeId} {gs:List Gd} {v:V} {L:Nat→Option Nat} (hL:∀ id m,L id=some m→(ρ.s id).n=m) (h:buV P L R bu xs.toList ts.toList=some (gs,v)) (hg:∀ g∈gs,g.P) :
  OP P n ⟨d,.call ⟨.builtin bu,xs,ts⟩,ty,ps,af,g⟩ (dR ρ R) (aay ρ v):=by
 unfold buV at h
 split at h
 ·split at h
  ·rename_i x T hxs hts
   obtain rfl:xs=#[x]:=by apply Array.ext'; simpa using hxs
   obtain rfl:ts=#[T]:=by apply Array.ext'; simpa using hts
   split at h
   ·rename_i hT
    split at h
    ·rename_i u hx
     simp only [Option.map_eq_some_iff,Prod.mk.injEq] at h; obtain ⟨w,hw,rfl,rfl⟩:=h
     unfold aKf at hw
     split at hw
     ·rename_i id
      cases hm:L id with
      | none =>rw [hm] at hw; cases hw
      | some m =>
      rw [hm] at hw
      cases hw
      have:=avl (P:=P) (n:=n) (d:=d) (ty:=ty) (ps:=ps) (af:=af) (g:=g) (aaO (ρ:=ρ) hx) (acC hT)
      rw [hL _ _ hm] at this
      exact this
     ·cases hw; exact avl (aaO hx) (acC hT)
     ·cases hw; exact avl (aaO hx) (acC hT)
     ·cases hw; exact avl (aaO hx) (acC hT)
     ·cases hw
    ·cases h
   ·cases h
  ·cases h
 ·split at h
  ·rename_i x y hxs
   obtain rfl:xs=#[x,y]:=by apply Array.ext'; simpa using hxs
   split at h
   ·rename_i hx
    split at h
    ·rename_i hy
     split at h
     ·rename_i hi
      split at h
      ·rename_i hj
       cases h; rw [aeW]; exact aJO (acy hx hi) (acy hy hj)
      ·cases h
     ·cases h
    ·cases h
   ·cases h
  ·cases h
 ·split at h
  ·rename_i x y hxs
   obtain rfl:xs=#[x,y]:=by apply Array.ext'; simpa using hxs
   split at h
   ·rename_i hx
    split at h
    ·rename_i hy
     split at h
     ·rename_i hi
      split at h
      ·rename_i hj
       cases h; rw [aeW]; exact aJP (acy hx hi) (acy hy hj)
      ·cases h
     ·cases h
    ·cases h
   ·cases h
  ·cases h
 ·cases h
theorem aKB {L:Nat→Option Nat} {o:Oper} {gs:List Gd} {v:V} (hL:∀ id m,L id=some m→(ρ.s id).n=m) (h:evP P L R o.op=some (gs,v)) (hg:∀ g∈gs,g.P):OP P n o (dR ρ R) (aay ρ v):=by
 obtain ⟨d,op,ty,ps,af,g⟩:=o
 simp only at h
 unfold evP at h
 split at h
 ·simp only [Option.map_eq_some_iff,Prod.mk.injEq] at h; obtain ⟨u,hu,rfl,rfl⟩:=h; exact aHs (aaO hu)
 ·simp only [Option.map_eq_some_iff,Prod.mk.injEq] at h; obtain ⟨u,hu,rfl,rfl⟩:=h; exact aBn (aaO hu)
 ·split at h
  ·rename_i hx; cases h; exact awV (aaO hx)
  ·rename_i hx; cases h; exact avk (by simpa only [aay] using aaO hx)
  ·cases h
 ·split at h
  ·rename_i b hx
   simp only [Option.map_eq_some_iff,Prod.mk.injEq] at h; obtain ⟨u,hu,rfl,rfl⟩:=h
   refine aHq (b:=b) (aaO hx) ?_
   cases b<;>exact aaO hu
  ·cases h
 ·split at h
  ·rename_i hx
   split at h
   ·rename_i hy; exact aKV h hg hx hy
   ·cases h
  ·cases h
 ·split at h
  ·rename_i hx
   simp only [Option.map_eq_some_iff,Prod.mk.injEq] at h; obtain ⟨u,hu,rfl,rfl⟩:=h
   exact aI1 hu hx
  ·cases h
 ·split at h
  ·rename_i hx
   split at h
   ·rename_i hi
    split at h
    ·rename_i hT
     split at h
     ·rename_i hT'
      cases h; rw [aeW]; exact aHt (acy hx hi) (ayH hT) (ayH hT') rfl
     ·cases h
    ·cases h
   ·cases h
  ·cases h
 ·split at h
  ·rename_i hx
   simp only [Option.map_eq_some_iff,Prod.mk.injEq] at h; obtain ⟨u,hu,rfl,rfl⟩:=h
   exact azB (aaO hx) (by simpa using azE hu)
  ·cases h
 ·split at h
  ·rename_i hx
   simp only [Option.map_eq_some_iff,Prod.mk.injEq] at h; obtain ⟨u,hu,rfl,rfl⟩:=h
   exact aEb (aaO hx) hu (Nat.add_assoc ..)
  ·cases h
 ·split at h
  ·rename_i c _ _ _
   obtain ⟨callee,xs,ts⟩:=c
   simp only at *
   subst callee
   exact aKT hL h hg
  ·cases h
 ·split at h
  ·rename_i f first captured _ he
   simp only [Option.map_eq_some_iff,Prod.mk.injEq] at h; obtain ⟨u,hu,rfl,rfl⟩:=h
   have:first=#[]:=by simpa using he
   subst this
   exact awW (xs:=captured.toList) (arj hu)
  ·cases h
 ·cases h
end
def aLJ (l:Nat) (o:Obj):aad:=fun h =>h l 0=some (.obj o)
section
variable {B:Nat} {w:World} {L M:List aad} {l:Nat} {o o':Obj}
theorem Sat.obj (s:Sat B w (aLJ l o::L)):B≤l∧w.heap[l]?=some o∧Obj.plain o=true:=by
 obtain ⟨h,H,k1,k2,a,e,hA,hL⟩:=s
 have:=H l 0 (.obj o) (by rw [e]; unfold ad3; rw [show k1 l 0=_ from hA])
 exact ⟨this.1.resolve_right id,this.2.1,this.2.2.1⟩
theorem Sat.newObj (s:Sat B w L) (hB:B≤w.heap.size) (hp:Obj.plain o=true):Sat B (w.alloc o) (aLJ w.heap.size o::L):=by
 obtain ⟨h,H,hL⟩:=s
 have hfar:∀ j,h w.heap.size j=none:=fun j =>by
  cases e:h w.heap.size j with
  | none =>rfl
  | some x =>exact absurd (H _ _ _ e).2.lt (by omega)
 refine ⟨ad3 (fun b j =>if b=w.heap.size∧j=0 then some (.obj o) else none) h,?_,_,h,?_,rfl,?_,hL⟩
 ·intro b j x hx
  unfold ad3 at hx
  by_cases hc:b=w.heap.size∧j=0
  ·obtain ⟨rfl,rfl⟩:=hc
   simp only [and_self,if_true] at hx
   obtain rfl:=Option.some.inj hx
   exact ⟨.inl hB,heap_alloc_new w _,hp,rfl⟩
  ·simp only [if_neg hc] at hx
   have h2:=H b j x hx
   exact ⟨h2.1,h2.2.same (Below.heap_alloc w _ _ h2.2.lt)⟩
 ·intro b j
  by_cases hc:b=w.heap.size∧j=0
  ·obtain ⟨rfl,rfl⟩:=hc; exact .inr (.inl (hfar _))
  ·left; simp [hc]
 ·show (if w.heap.size=w.heap.size∧0=0 then some (Item.obj o) else none)=some (.obj o)
  simp
end
section
variable {P:Program} {Q:Exit→Act→World→Prop} {B:Nat} {W:World} {L M:List aad}
 {ty:TypeId} {ps:String} {af:Array Edge} {g:Option (Nat×Bool)}
theorem Cls.perm {w:World} (h:Cls B W L w) (p:L.Perm M):Cls B W M w:=⟨h.1,h.2.1,h.2.2.perm p⟩
theorem Cls.newObj {w:World} {o:Obj} (h:Cls B W L w) (hp:Obj.plain o=true):Cls B W (aLJ w.heap.size o::L) (w.alloc o) :=
 ⟨h.1.alloc h.2.1 o,by rw [World.size_alloc]; have:=h.2.1; omega,h.2.2.newObj h.2.1 hp⟩
section
variable {o:Oper} {ops:Array Oper} {n:Nat} {R R':adM} {v:Value} {rest:List Oper}
end
end
def aK5 (n:Nat) (w u:World):Prop:=∀ b o v,n≤b→w.cell? ⟨b,o,none⟩=some v→u.cell? ⟨b,o,none⟩=some v
theorem aK5.refl (n:Nat) (w:World):aK5 n w w:=fun _ _ _ _ h =>h
def aF9 (w:World) (h:Hp):Prop:=∀ b o x,h b o=some x→agF w b o x
def aLU (Φ:World→Prop):aad:=fun h =>∀ w,aF9 w h→Φ w
section
variable {P:Program} {n B:Nat} {W:World} {R R':adM} {L L' M:List aad} {v u:Value} {x y z:Operand} {w w':World} {Φ:World→Prop}
 {d:Option Tmp} {ty:TypeId} {ps:String} {af:Array Edge} {g:Option (Nat×Bool)} {T T':TypeId}
theorem Sat.held (s:Sat B w (aLU Φ::L)):Φ w:=by
 obtain ⟨h,H,k1,k2,a,e,hA,hL⟩:=s
 exact hA w fun b o x hx =>(H b o x (by rw [e]; unfold ad3; rw [hx])).2
end
theorem asi {u:World} {b o:Nat} {v:Value} (h:u.cell? ⟨b,o,none⟩=some v):b<u.heap.size:=by
 rcases Nat.lt_or_ge b u.heap.size with h1 | h1
 ·exact h1
 ·have e:=Array.getElem?_eq_none h1
  unfold World.cell? at h; rw [e] at h; cases h
def SE (L L':List aad):Prop:=∀ B w,Sat B w L→Sat B w L'
def af1 (Φ:World→Prop):aad:=fun h =>∃ k:Hp,(∀ b o x,k b o=some x→(∃ v,x=.look v)∧h b o=some x)∧∀ w,aF9 w k→Φ w
section
variable {r:Option Nat} {P:Program} {ops:Array Oper} {Q:Exit→Act→World→Prop} {n B:Nat} {W:World} {R R':adM} {L L' L'' M:List aad} {Φ Ψ:World→Prop} {v:Value} {x y z:Operand}
 {d:Option Tmp} {ty:TypeId} {ps:String} {af:Array Edge} {g:Option (Nat×Bool)} {T T':TypeId}
theorem SE.of (e:Ent L L'):SE L L':=fun _ _ s =>s.imp e
theorem SE.trans (h:SE L L') (k:SE L' L''):SE L L'':=fun B w s =>k B w (h B w s)
def exL {X:Type} (N:X→List aad):aad:=fun h =>∃ x,abW (N x) h
theorem ah6 {X:Type} {N:X→List aad} {w:World} (s:Sat B w (exL N::L)):∃ x,Sat B w (N x++L):=by
 obtain ⟨h,H,k1,k2,a,e,⟨x,hA⟩,hL⟩:=s
 exact ⟨x,h,H,aaj.2 ⟨k1,k2,a,e,hA,hL⟩⟩
theorem am8:Ent (af1 Φ::L) (af1 Φ::af1 Φ::L):=fun h s =>by
 obtain ⟨k1,k2,a,e,⟨k,hk,hΦ⟩,hL⟩:=s
 refine ⟨k,h,fun b o =>?_,?_,⟨k,fun b o x hx =>⟨(hk b o x hx).1,hx⟩,hΦ⟩,⟨k1,k2,a,e,⟨k,hk,hΦ⟩,hL⟩⟩
 ·cases hkb:k b o with
  | none =>exact .inl rfl
  | some x =>
   obtain ⟨⟨v,rfl⟩,h2⟩:=hk b o x hkb
   refine .inr (.inr ⟨v,rfl,?_⟩)
   rw [e]; unfold ad3; rw [h2]
 ·funext b o
  unfold ad3
  cases hkb:k b o with
  | none =>rfl
  | some x =>
   obtain ⟨⟨v,rfl⟩,h2⟩:=hk b o x hkb
   rw [e]; unfold ad3; rw [h2]
theorem aeF (f:∀ u,Φ u→Ψ u):∀ h,af1 Φ h→af1 Ψ h:=fun _ ⟨k,hk,hΦ⟩ =>⟨k,hk,fun w hw =>f w (hΦ w hw)⟩
theorem am7 {w:World} (s:Sat B w L) (h:af1 Φ∈L):Φ w:=by
 obtain ⟨l',p⟩:=Pick.of_mem h
 obtain ⟨k,H,k1,k2,a,e,⟨k',hk,hΦ⟩,hL⟩:=s.perm p.perm
 exact hΦ w fun b o x hx =>(H b o x (by rw [e]; unfold ad3; rw [(hk b o x hx).2])).2
theorem aBx {h k:Hp} (a:apart h k) (h1:af1 Φ h) (h2:af1 Ψ k):af1 (fun u =>Φ u∧Ψ u) (ad3 h k):=by
 obtain ⟨k1,q1,p1⟩:=h1
 obtain ⟨k2,q2,p2⟩:=h2
 refine ⟨ad3 k1 k2,fun b o x hx =>?_,fun w hw =>⟨p1 w fun b o x hx =>hw b o x (by unfold ad3; rw [hx]),p2 w fun b o x hx =>hw b o x ?_⟩⟩
 ·unfold ad3 at hx ⊢
  cases e1:k1 b o with
  | some y =>
   rw [e1] at hx; obtain rfl:=Option.some.inj hx
   obtain ⟨g1,g2⟩:=q1 b o y e1
   exact ⟨g1,by rw [g2]⟩
  | none =>
   rw [e1] at hx
   obtain ⟨g1,g2⟩:=q2 b o x hx
   refine ⟨g1,?_⟩
   rcases a b o with e | e | ⟨v,e3,e4⟩
   ·rw [e]; exact g2
   ·rw [e] at g2; cases g2
   ·rw [e3]; rw [e4] at g2; exact g2
 ·unfold ad3
  cases e1:k1 b o with
  | none =>exact hx
  | some y =>
   obtain ⟨⟨v,rfl⟩,g2⟩:=q1 b o y e1
   obtain ⟨⟨u,rfl⟩,g4⟩:=q2 b o x hx
   rcases a b o with e | e | ⟨v',e3,e4⟩
   ·rw [e] at g2; cases g2
   ·rw [e] at g4; cases g4
   ·rw [e3] at g2; rw [e4] at g4
    injection g2 with g2; injection g2 with g2
    injection g4 with g4; injection g4 with g4
    rw [← g2,← g4]
theorem ayB:Ent (af1 Φ::af1 Ψ::L) (af1 (fun u =>Φ u∧Ψ u)::L):=fun h s =>by
 obtain ⟨k1,k2,a,e,h1,k3,k4,a',e',h2,hL⟩:=s
 subst e'
 have a1:=(aa9 a').1 (aat a)
 exact ⟨ad3 k1 k3,k4,(aa9 (aat a1.1)).2 ⟨aat a1.2,a'⟩,by rw [e,adU],aBx (aat a1.1) h1 h2,hL⟩
theorem aq0:Ent L (af1 (fun _ =>True)::L):=fun h s =>⟨fun _ _ =>none,h,fun _ _ =>.inl rfl,by funext x y; rfl,⟨fun _ _ =>none,(fun _ _ _ (e:none=some _) =>by cases e),fun _ _ =>trivial⟩,s⟩
theorem aw1 {b o:Nat} {vs:List Value}:SE (pts b o vs::L) (af1 (fun u =>∀ i v,vs[i]?=some v→u.cell? ⟨b,o+i,none⟩=some v)::L):=fun B w s =>by
 obtain ⟨h,H,k1,k2,a,e,hA,hL⟩:=s
 let f:Option Item→Option Item:=fun x =>match x with | some (.cell v) =>some (.look v) | y =>y
 have hin:∀ i v,vs[i]?=some v→k1 b (o+i)=some (.cell v):=hA
 refine ⟨ad3 (fun b o =>f (k1 b o)) k2,?_,_,k2,?_,rfl,⟨fun b' o' =>if b'=b∧o≤o' then (match vs[o'-o]? with | some v =>some (.look v) | none =>none) else none,?_,?_⟩,hL⟩
 ·intro b' o' x hx
  unfold ad3 at hx
  simp only [] at hx
  cases e1:k1 b' o' with
  | none =>
   rw [e1] at hx
   exact H b' o' x (by rw [e]; unfold ad3; rw [e1]; exact hx)
  | some y =>
   have h1:=H b' o' y (by rw [e]; unfold ad3; rw [e1])
   rw [e1] at hx
   cases y with
   | cell v =>obtain rfl:=Option.some.inj hx; exact ⟨.inr trivial,h1.2.1⟩
   | obj v =>obtain rfl:=Option.some.inj hx; exact h1
   | look v =>obtain rfl:=Option.some.inj hx; exact h1
 ·intro b' o'
  rcases a b' o' with e1 | e1 | ⟨v,e1,e2⟩
  ·left; simp only [e1]; rfl
  ·exact .inr (.inl e1)
  ·right; right; exact ⟨v,by simp only [e1]; rfl,e2⟩
 ·intro b' o' x hx
  simp only [] at hx
  by_cases hc:b'=b∧o≤o'
  ·rw [if_pos hc] at hx
   obtain ⟨rfl,hle⟩:=hc
   cases hv:vs[o'-o]? with
   | none =>rw [hv] at hx; cases hx
   | some v =>
    rw [hv] at hx
    obtain rfl:=Option.some.inj hx
    have:=hin _ _ hv
    rw [Nat.add_sub_cancel' hle] at this
    exact ⟨⟨v,rfl⟩,by simp only [this]; rfl⟩
  ·rw [if_neg hc] at hx; cases hx
 ·intro u hu i v hi
  have:=hu b (o+i) (.look v) (by simp [hi])
  exact this
def roS {α:Type} (enc:α→List Value) (sz:Nat) (A:Option Addr) (c:Nat) (xs:List α):aad:=af1 fun u =>Sl enc sz u u.heap.size A xs∧xs.length≤c
section
variable {α:Type} {enc:α→List Value} {sz:Nat} {A:Option Addr} {c:Nat} {xs:List α}
theorem ayR {α:Type} {enc:α→List Value} {sz:Nat} (henc:∀ x,(enc x).length=sz):∀ (xs:List α) (i:Nat) (x:α),xs[i]?=some x→∀ (j:Nat) y,(enc x)[j]?=some y→(xs.flatMap enc)[i*sz+j]?=some y
 | [],i,x,h,_,_,_ =>by cases h
 | z::xs,0,x,h,j,y,hj =>by
  simp at h; subst h
  rw [List.flatMap_cons,Nat.zero_mul,Nat.zero_add,List.getElem?_append_left (List.getElem?_eq_some_iff.1 hj).1]; exact hj
 | z::xs,i+1,x,h,j,y,hj =>by
  rw [List.flatMap_cons,List.getElem?_append_right (by rw [henc,Nat.add_mul]; omega)]
  have:=ayR henc xs i x (by simpa using h) j y hj
  rw [henc,← this]; congr 1; rw [Nat.add_mul]; omega
theorem aFw {L:List aad} {A:Option Addr} {c:Nat}:Ent L (roS enc sz A c ([]:List α)::L):=aq0.trans (Ent.cons (aeF fun _ _ =>⟨Sl.nil,Nat.zero_le _⟩) Ent.refl)
theorem aqu (hsz:0<sz) (henc:∀ x,(enc x).length=sz) {m:Nat} (hm:xs.length=m):SE (ae9 A m c sz (xs.flatMap enc)::L) (roS enc sz A c xs::L):=fun B w s =>by
 subst hm
 obtain ⟨h1,h2,h3,h4⟩:=agp s (List.mem_cons_self ..)
 cases xs with
 | nil =>exact aFw.sat s.drop
 | cons x xs =>
  obtain ⟨h,H,k1,k2,a,e,⟨r1,r2,r3,r4⟩,hL⟩:=s
  rcases r4 with ⟨_,r4⟩ | ⟨b,o,spare,rfl,rs,rp⟩
  ·simp at r2; omega
  ·have s':Sat B w (pts b o ((x::xs).flatMap enc)::L):=⟨h,H,k1,k2,a,e,(an3 rp).1,hL⟩
   have s2:=aw1 B w s'
   have hlen:(x::xs).length≤9223372036854775807:=by unfold maxLen at r3; omega
   refine s2.imp fun h =>aaJ (aeF fun u hu =>⟨⟨hlen,fun _ =>⟨b,o,rfl,?_,?_⟩⟩,r2⟩) 
   ·cases hx:enc x with
    | nil =>have:=henc x; rw [hx] at this; simp at this; omega
    | cons y ys =>exact asi (hu 0 y (by rw [List.flatMap_cons,hx]; rfl))
   ·intro i z hz j v hj
    have:=hu _ _ (ayR henc (x::xs) i z hz j v hj)
    rw [Nat.add_assoc]; exact this
theorem arJ {w:World} (s:Sat B w L) (h:roS enc sz A c xs∈L):Sl enc sz w w.heap.size A xs∧xs.length≤c:=am7 s h
theorem ax3:Ent (roS enc sz A c xs::L) (roS enc sz A c xs::roS enc sz A c xs::L):=am8
end
end
theorem aDS {b o:Nat} {xs ys:List Value} {h k:Hp} (p1:pts b o xs h) (p2:pts b (o+xs.length) ys k) (a:apart h k):pts b o (xs++ys) (ad3 h k):=fun i v hi =>by
 unfold ad3
 rcases Nat.lt_or_ge i xs.length with h1 | h1
 ·rw [List.getElem?_append_left h1] at hi
  rw [p1 i v hi]
 ·rw [List.getElem?_append_right h1] at hi
  have:=p2 _ v hi
  rw [Nat.add_assoc,Nat.add_sub_cancel' h1] at this
  rcases a b (o+i) with e | e | ⟨u,_,e⟩
  ·rw [e]; exact this
  ·rw [e] at this; cases this
  ·rw [e] at this; cases this
theorem aAU {b o:Nat} {xs ys:List Value} {h:Hp} (p:pts b o (xs++ys) h):∃ h1 h2,apart h1 h2∧h=ad3 h1 h2∧pts b o xs h1∧pts b (o+xs.length) ys h2:=by
 have p2:=an3 p
 refine ⟨fun b' o' =>if b'=b∧o'<o+xs.length then h b' o' else none,fun b' o' =>if b'=b∧o'<o+xs.length then none else h b' o',fun b' o' =>?_,?_,fun i v hi =>?_,fun i v hi =>?_⟩
 ·by_cases hc:b'=b∧o'<o+xs.length
  ·simp only [if_pos hc]; exact .inr (.inl rfl)
  ·simp only [if_neg hc]; exact .inl rfl
 ·funext b' o'
  unfold ad3
  by_cases hc:b'=b∧o'<o+xs.length
  ·simp only [if_pos hc]; cases h b' o'<;>rfl
  ·simp only [if_neg hc]
 ·have hlt:=(List.getElem?_eq_some_iff.1 hi).1
  simp only [true_and]
  rw [if_pos (by omega)]
  exact p2.1 i v hi
 ·have:¬ (b=b∧o+xs.length+i<o+xs.length):=by omega
  show (if b=b∧o+xs.length+i<o+xs.length then none else h b (o+xs.length+i))=_
  rw [if_neg this]
  exact p2.2 i v hi
theorem an1 {b o:Nat} {xs ys:List Value} {L:List aad}:Ent (pts b o (xs++ys)::L) (pts b o xs::pts b (o+xs.length) ys::L):=fun h s =>by
 obtain ⟨k1,k2,a,e,hA,hL⟩:=s
 obtain ⟨h1,h2,a',e',p1,p2⟩:=aAU hA
 subst e'
 have a2:=(aa9 a').1 a
 exact ⟨h1,ad3 h2 k2,aat ((aa9 a2.2).2 ⟨aat a',aat a2.1⟩),by rw [e,adU],p1,h2,k2,a2.2,rfl,p2,hL⟩
theorem an2 {b o o':Nat} {xs ys:List Value} {L:List aad} (ho:o+xs.length=o'):Ent (pts b o xs::pts b o' ys::L) (pts b o (xs++ys)::L):=fun h s =>by
 subst ho
 obtain ⟨k1,k2,a,e,hA,k3,k4,a',e',hB,hL⟩:=s
 subst e'
 have a1:=(aa9 a').1 (aat a)
 exact ⟨ad3 k1 k3,k4,(aa9 (aat a1.1)).2 ⟨aat a1.2,a'⟩,by rw [e,adU],aDS hA hB (aat a1.1),hL⟩
section
variable {α:Type} (enc:α→Option Addr→Nat→List Value) (lst:α→List Int) (sz:Nat)
end
section
variable {α:Type} {enc:α→Option Addr→Nat→List Value} {lst:α→List Int} {sz:Nat}
variable {r:Option Nat} {P:Program} {ops:Array Oper} {Q:Exit→Act→World→Prop} {n B:Nat} {W:World} {R R':adM} {L L' M:List aad} {v:Value} {x y z:Operand}
 {d:Option Tmp} {ty:TypeId} {ps:String} {af:Array Edge} {g:Option (Nat×Bool)} {T T':TypeId} {A:Option Addr} {c i:Nat} {xs:List α}
end
structure AccV where
 kind:Int
 cell:Int
 old:Int
 new:Int
 deriving DecidableEq,Inhabited
structure MemV where
 cells:List Int
 last:AccV
 count:Int
 deriving DecidableEq,Inhabited
structure RecV where
 prog:Int
 parent:Int
 pc:Int
 left:Int
 waiting:Int
 kids:List Int
 started:Bool
 deriving DecidableEq,Inhabited
structure QV where
 top:Int
 bottom:Int
 ring:Int
 cap:Int
 deriving DecidableEq,Inhabited
structure FrV where
 kind:Int
 line:Int
 q:QV
 a:Int
 b:Int
 d:Int
 i:Int
 j:Int
 n:Int
 t:Int
 u:Int
 v:Int
 w:Int
 x:Int
 l:List Int
 deriving DecidableEq,Inhabited
structure ResV where
 done:Bool
 code:Int
 value:Int
 deriving DecidableEq,Inhabited
structure EntV where
 kind:Int
 value:Int
 deriving DecidableEq,Inhabited
deriving instance Inhabited for Ins
deriving instance Inhabited for Sub
deriving instance Inhabited for Ev
def EntV.enc (x:EntV):List Value:=[.int .i64 x.kind,.int .i64 x.value]
instance : Inhabited Addr := ⟨⟨0,0,none⟩⟩
@[reducible] def wi (a : Int) : Int := IntKind.i64.wrap a
@[reducible] def wu (a : Int) : Int := IntKind.u64.wrap a
@[reducible] def orU (a b : Int) : Int := IntKind.u64.wrap (BitVec.ofInt IntKind.u64.bits a ||| BitVec.ofInt IntKind.u64.bits b).toNat
@[reducible] def aoG (a b : Int) : Int := IntKind.u64.wrap (BitVec.ofInt IntKind.u64.bits a &&& BitVec.ofInt IntKind.u64.bits b).toNat
@[reducible] def aEY (a : Int) : Int := IntKind.u64.wrap (BitVec.ofInt IntKind.u64.bits (if IntKind.u64.signed then -1 else IntKind.u64.max) ^^^ BitVec.ofInt IntKind.u64.bits a).toNat
def at_ {α:Type} [Inhabited α] (xs:List α) (i:Int):α:=(xs[i.toNat]?).getD default
section
variable {r:Option Nat} {P:Program} {ops:Array Oper} {Q:Exit→Act→World→Prop} {n B:Nat} {W:World} {R R':adM} {L L' M:List aad} {v:Value} {x y z:Operand}
 {d:Option Tmp} {ty:TypeId} {ps:String} {af:Array Edge} {g:Option (Nat×Bool)} {T T':TypeId} {α:Type} {enc:α→List Value} {sz:Nat} {A:Option Addr} {c:Nat} {xs:List α}
end
inductive Fl (T:Nat→Type) (M:Type) where
 | i (k:IntKind) (x:Int)
 | b (x:Bool)
 | c (v:Value)
 | own (c:Nat) (x:T c)
 | row (c:Nat) (xs:List (T c))
 | ro (c:Nat) (xs:List (T c))
 | rr (c:Nat) (xss:List (List (T c)))
 | mach (m:M)
 | o
def alI {T:Nat→Type} {M:Type}:List (Fl T M)→Bool
 | [] =>true
 | f::l =>match f with
  | .i .. =>alI l
  | .b .. =>alI l
  | _ =>false
structure KT where
 T:Nat→Type
 M:Type
 df:(c:Nat)→T c
 sz:Nat→Nat
 vw:(c:Nat)→T c→List (Fl T M)
 bk:(c:Nat)→List (Fl T M)→Option (T c)
 bk_ok:∀ c l x,bk c l=some x→vw c x=l
 sz_ok:∀ c x,(vw c x).length=sz c
 pl:Nat→Bool
 pl_ok:∀ c,pl c=true→∀ x,alI (vw c x)=true
 nc:∀ c x,∀ f∈vw c x,∀ u,f≠.c u
 tid:Nat→TypeId
 tk:TypeId→Option Nat
 spl:M→Option (Σ c:Nat,T c)
 nilM:M
 nilM_ok:spl nilM=none
 mkM:(c:Nat)→T c→Option M
 mkM_ok:∀ c x m,mkM c x=some m→spl m=some ⟨c,x⟩
 kd:TypeId→Option Nat
 kd_ok:∀ t c,kd t=some c→tid c=t
 ls:(c c':Nat)→Option (PLift (T c'=List (T c)))
 ls_ok:∀ c c' h,ls c c'=some h→∀ x,vw c' x=[.ro c (h.down▸x)]∨(vw c' x=[.row c (h.down▸x)]∧pl c=true∧0<sz c)
section
variable {T:Nat→Type} {M:Type}
def flV:Fl T M→Value
 | .i k x =>.int k x
 | .b x =>.bool x
 | .c v =>v
 | _ =>undef
end
def rrS {α:Type} (enc:α→List Value) (sz:Nat) (A:Option Addr) (c:Nat) (xss:List (List α)):aad:=fun h =>∃ ps:List (Option Addr×Nat),af1 (fun u =>(xss.length≤9223372036854775807∧xss.length≤c) ∧
 ∀ (i:Nat) (xs:List α),xss[i]?=some xs→∃ a,ps[i]?=some a∧(Sl enc sz u u.heap.size a.1 xs∧xs.length≤a.2)∧∃ b o,A=some ⟨b,o,none⟩∧b<u.heap.size∧u.cell? ⟨b,o+i,none⟩=some (.slice a.1 xs.length a.2)) h
def apr (p:Prop):aad:=fun _ =>p
theorem arl {p:Prop} {L:List aad} (h:p):Ent L (apr p::L):=fun k s =>⟨fun _ _ =>none,k,fun _ _ =>.inl rfl,by funext x y; rfl,h,s⟩
section
variable (K:KT)
abbrev KT.F:=Fl K.T K.M
def afG (c:Nat) (x:K.T c):List Value:=(K.vw c x).map flV
abbrev ObS:=(c:Nat)→K.T c→Nat×Nat→aad
abbrev RwS:=(c:Nat)→List (K.T c)→Option Addr→Nat→aad
def pcW (ob:ObS K) (rw_:RwS K):Fl K.T K.M→Value→aad
 | .i k x,v =>apr (v=.int k x)
 | .b x,v =>apr (v=.bool x)
 | .c u,v =>apr (v=u)
 | .own c x,v =>fun h =>∃ q,v=.pointer (some ⟨q.1,q.2,none⟩)∧ob c x q h
 | .row c xs,v =>fun h =>∃ A cap,v=.slice A xs.length cap∧rw_ c xs A cap h
 | .ro c xs,v =>fun h =>∃ A cap,v=.slice A xs.length cap∧roS (afG K c) (K.sz c) A cap xs h
 | .rr c xss,v =>fun h =>∃ A cap,v=.slice A xss.length cap∧rrS (afG K c) (K.sz c) A cap xss h
 | .mach m,v =>fun h =>match K.spl m with
  | none =>v=.nilIface
  | some p =>∃ q,v=.iface (K.tid p.1) (.pointer (some ⟨q.1,q.2,none⟩))∧ob p.1 p.2 q h
 | .o,v =>apr (aei v=true)
end
def fsS {F:Type} (pc:F→Value→aad):List F→List Value→List aad
 | [],[] =>[]
 | f::fs,v::vs =>pc f v::fsS pc fs vs
 | _,_ =>[fun _ =>False]
section
variable (K:KT)
def obW (pc:Fl K.T K.M→Value→aad):ObS K:=fun c x q h =>∃ vs,abW (pts q.1 q.2 vs::fsS pc (K.vw c x) vs) h
def abX (pc:Fl K.T K.M→Value→aad) (c:Nat):List (K.T c)→List (List Value)→List aad
 | [],[] =>[]
 | x::xs,vs::vss =>fsS pc (K.vw c x) vs++abX pc c xs vss
 | _,_ =>[fun _ =>False]
def rwW (pc:Fl K.T K.M→Value→aad):RwS K:=fun c xs A cap h =>∃ vss:List (List Value),abW (ae9 A xs.length cap (K.sz c) vss.flatten::abX K pc c xs vss) h
def pcN:Nat→Fl K.T K.M→Value→aad
 | 0 =>pcW K (fun _ _ _ _ =>False) (fun _ _ _ _ _ =>False)
 | n+1 =>pcW K (obW K (pcN n)) (rwW K (pcN n))
def pcS (f:Fl K.T K.M) (v:Value):aad:=fun h =>∃ n,pcN K n f v h
def obS:ObS K:=fun c x q h =>∃ n,obW K (pcN K n) c x q h
def rwS:RwS K:=fun c xs A cap h =>∃ n,rwW K (pcN K n) c xs A cap h
end
section
variable {K:KT}
theorem alh {F:Type} {pc pc':F→Value→aad} (hm:∀ f v h,pc f v h→pc' f v h):∀ (fs:List F) (vs:List Value) (L:List aad) (h:Hp),abW (fsS pc fs vs++L) h→abW (fsS pc' fs vs++L) h
 | [],[],_,_,s =>s
 | f::fs,v::vs,L,h,s =>aaJ (hm f v) (abp (fun h s =>alh hm fs vs L h s) s)
 | [],_::_,_,_,⟨_,_,_,_,hf,_⟩ =>hf.elim
 | _::_,[],_,_,⟨_,_,_,_,hf,_⟩ =>hf.elim
theorem amD {pc pc':Fl K.T K.M→Value→aad} (hm:∀ f v h,pc f v h→pc' f v h) {c:Nat}:∀ (xs:List (K.T c)) (vss:List (List Value)) (L:List aad) (h:Hp),abW (abX K pc c xs vss++L) h→abW (abX K pc' c xs vss++L) h
 | [],[],_,_,s =>s
 | x::xs,vs::vss,L,h,s =>by
  simp only [abX,List.append_assoc] at s ⊢
  have s1:=alh hm _ _ _ h s
  obtain ⟨k1,k2,a,e,h1,h2⟩:=aaj.1 s1
  exact aaj.2 ⟨k1,k2,a,e,h1,amD hm xs vss L k2 h2⟩
 | [],_::_,_,_,⟨_,_,_,_,hf,_⟩ =>hf.elim
 | _::_,[],_,_,⟨_,_,_,_,hf,_⟩ =>hf.elim
theorem aEg {pc pc':Fl K.T K.M→Value→aad} (hm:∀ f v h,pc f v h→pc' f v h) (c:Nat) (x:K.T c) (q:Nat×Nat) (h:Hp) (s:obW K pc c x q h):obW K pc' c x q h:=by
 obtain ⟨vs,s⟩:=s
 refine ⟨vs,abp (fun k hk =>?_) s⟩
 have:=alh hm (K.vw c x) vs [] k (by simpa using hk)
 simpa using this
theorem aDG {pc pc':Fl K.T K.M→Value→aad} (hm:∀ f v h,pc f v h→pc' f v h) (c:Nat) (xs:List (K.T c)) (A:Option Addr) (cap:Nat) (h:Hp) (s:rwW K pc c xs A cap h):rwW K pc' c xs A cap h:=by
 obtain ⟨vs,s⟩:=s
 refine ⟨vs,abp (fun k hk =>?_) s⟩
 have:=amD hm xs vs [] k (by simpa using hk)
 simpa using this
theorem apT {ob ob':ObS K} {rw_ rw':RwS K} (h1:∀ c x q h,ob c x q h→ob' c x q h) (h2:∀ c xs A cap h,rw_ c xs A cap h→rw' c xs A cap h):∀ f v h,pcW K ob rw_ f v h→pcW K ob' rw' f v h:=by
 intro f v h hp
 cases f with
 | i k x =>exact hp
 | b x =>exact hp
 | c u =>exact hp
 | own c x =>obtain ⟨q,e,hq⟩:=hp; exact ⟨q,e,h1 _ _ _ _ hq⟩
 | row c xs =>obtain ⟨A,cap,e,hq⟩:=hp; exact ⟨A,cap,e,h2 _ _ _ _ _ hq⟩
 | ro c xs =>exact hp
 | rr c xss =>exact hp
 | mach m =>
  simp only [pcW] at hp ⊢
  split at hp
  ·exact hp
  ·obtain ⟨q,e',hq⟩:=hp; exact ⟨q,e',h1 _ _ _ _ hq⟩
 | o =>exact hp
theorem as6:∀ (n:Nat) (f:Fl K.T K.M) (v:Value) (h:Hp),pcN K n f v h→pcN K (n+1) f v h
 | 0,f,v,h,hp =>apT (fun _ _ _ _ h =>h.elim) (fun _ _ _ _ _ h =>h.elim) f v h hp
 | n+1,f,v,h,hp =>apT (aEg (as6 n)) (aDG (as6 n)) f v h hp
theorem ayh {n m:Nat} (hle:n≤m) (f:Fl K.T K.M) (v:Value) (h:Hp) (hp:pcN K n f v h):pcN K m f v h:=by
 induction hle with
 | refl =>exact hp
 | step _ ih =>exact as6 _ _ _ _ ih
theorem ard:∀ (fs:List (Fl K.T K.M)) (vs:List Value) (h:Hp),abW (fsS (pcS K) fs vs) h→∃ n,abW (fsS (pcN K n) fs vs) h
 | [],[],_,s =>⟨0,s⟩
 | f::fs,v::vs,h,⟨k1,k2,a,e,⟨n,hf⟩,hL⟩ =>by
  obtain ⟨m,hm⟩:=ard fs vs k2 hL
  refine ⟨max n m,k1,k2,a,e,ayh (Nat.le_max_left ..) _ _ _ hf,?_⟩
  have:=alh (ayh (K:=K) (Nat.le_max_right n m)) fs vs [] k2 (by simpa using hm)
  simpa using this
 | [],_::_,_,⟨_,_,_,_,hf,_⟩ =>hf.elim
 | _::_,[],_,⟨_,_,_,_,hf,_⟩ =>hf.elim
theorem arY {c:Nat}:∀ (xs:List (K.T c)) (vss:List (List Value)) (h:Hp),abW (abX K (pcS K) c xs vss) h→∃ n,abW (abX K (pcN K n) c xs vss) h
 | [],[],_,s =>⟨0,s⟩
 | x::xs,vs::vss,h,s =>by
  obtain ⟨k1,k2,a,e,h1,h2⟩:=aaj.1 s
  obtain ⟨n,hn⟩:=ard _ _ _ h1
  obtain ⟨m,hm⟩:=arY xs vss k2 h2
  refine ⟨max n m,aaj.2 ⟨k1,k2,a,e,?_,?_⟩⟩
  ·have:=alh (ayh (K:=K) (Nat.le_max_left n m)) (K.vw c x) vs [] k1 (by simpa using hn)
   simpa using this
  ·have:=amD (ayh (K:=K) (Nat.le_max_right n m)) xs vss [] k2 (by simpa using hm)
   simpa using this
 | [],_::_,_,⟨_,_,_,_,hf,_⟩ =>hf.elim
 | _::_,[],_,⟨_,_,_,_,hf,_⟩ =>hf.elim
theorem aKx {n:Nat} {fs:List (Fl K.T K.M)} {vs:List Value} {h:Hp} (s:abW (fsS (pcN K n) fs vs) h):abW (fsS (pcS K) fs vs) h:=by
 have:=alh (pc:=pcN K n) (pc':=pcS K) (fun f v h hp =>⟨n,hp⟩) fs vs [] h (by simpa using s)
 simpa using this
theorem aiv {c:Nat} {x:K.T c} {q:Nat×Nat} {h:Hp}:obS K c x q h↔∃ vs,abW (pts q.1 q.2 vs::fsS (pcS K) (K.vw c x) vs) h:=by
 constructor
 ·rintro ⟨n,vs,s⟩
  exact ⟨vs,abp (fun _ =>aKx) s⟩
 ·rintro ⟨vs,k1,k2,a,e,hp,hL⟩
  obtain ⟨n,hn⟩:=ard _ _ _ hL
  exact ⟨n,vs,k1,k2,a,e,hp,hn⟩
theorem ac8 {c:Nat} {xs:List (K.T c)} {A:Option Addr} {cap:Nat} {h:Hp}:rwS K c xs A cap h↔∃ vss:List (List Value),abW (ae9 A xs.length cap (K.sz c) vss.flatten::abX K (pcS K) c xs vss) h:=by
 constructor
 ·rintro ⟨n,vs,s⟩
  refine ⟨vs,abp (fun k hk =>?_) s⟩
  have:=amD (pc:=pcN K n) (pc':=pcS K) (fun f v h hp =>⟨n,hp⟩) xs vs [] k (by simpa using hk)
  simpa using this
 ·rintro ⟨vs,k1,k2,a,e,hp,hL⟩
  obtain ⟨n,hn⟩:=arY _ _ _ hL
  exact ⟨n,vs,k1,k2,a,e,hp,hn⟩
theorem aax {f:Fl K.T K.M} {v:Value} {h:Hp}:pcS K f v h↔pcW K (obS K) (rwS K) f v h:=by
 constructor
 ·rintro ⟨n,hp⟩
  cases n with
  | zero =>exact apT (fun _ _ _ _ h =>h.elim) (fun _ _ _ _ _ h =>h.elim) f v h hp
  | succ n =>exact apT (fun _ _ _ _ h =>⟨n,h⟩) (fun _ _ _ _ _ h =>⟨n,h⟩) f v h hp
 ·intro hp
  cases f with
  | i k x =>exact ⟨0,hp⟩
  | b x =>exact ⟨0,hp⟩
  | c u =>exact ⟨0,hp⟩
  | own c x =>obtain ⟨q,e,n,hq⟩:=hp; exact ⟨n+1,q,e,hq⟩
  | row c xs =>obtain ⟨A,cap,e,n,hq⟩:=hp; exact ⟨n+1,A,cap,e,hq⟩
  | ro c xs =>exact ⟨0,hp⟩
  | rr c xss =>exact ⟨0,hp⟩
  | mach m =>
   simp only [pcW] at hp
   split at hp
   ·rename_i e; exact ⟨0,by simp only [pcN,pcW,e]; exact hp⟩
   ·rename_i p e
    obtain ⟨q,e',n,hq⟩:=hp
    exact ⟨n+1,by simp only [pcN,pcW,e]; exact ⟨q,e',hq⟩⟩
  | o =>exact ⟨0,hp⟩
end
inductive Fd (T:Nat→Type) (M:Type) where
 | v (x:V)
 | f (x:Fl T M)
inductive Ch (T:Nat→Type) (M:Type) where
 | cells (fs:List (Fd T M))
 | row (c:Nat) (xs:List (T c))
 | ro (c:Nat) (xs:List (T c))
 | rr (c:Nat) (xss:List (List (T c)))
 | elt (j:Nat) (i:Int) (sz:Nat)
 | arr (m sz:Nat) (vs:List V)
 | mach (m:M)
 | any (A:aad)
 | hole (c:Nat) (xs:List (T c)) (i:Int) (o:Nat) (u:V)
 | gap (c:Nat) (xs:List (T c)) (i:Int) (e:Nat)
 | slc (e m sz:Nat)
section
variable (K:KT)
abbrev KT.D:=Fd K.T K.M
abbrev KT.C:=Ch K.T K.M
abbrev KT.H:=List (Nat×Ch K.T K.M)
def fS (ρ:Env):Fd K.T K.M→Value→aad
 | .v x,v =>apr (v=aay ρ x)
 | .f x,v =>pcS K x v
def axH (ρ:Env) (id j sz:Nat) (i:Int):Prop:=(0≤i∧i<((ρ.s j).n:Int))∧∃ b o,(ρ.s j).a=some ⟨b,o,none⟩∧ρ.p id=(b,o+i.toNat*sz)
def aMI (A:Option Addr) (n cap c:Nat) (xs:List (K.T c)) (i:Int) (q:Nat×Nat):aad:=fun h =>∃ (b o:Nat) (vss:List (List Value)) (spare:List Value) (N:List aad),(0≤i∧i<(xs.length:Int))∧(A=some ⟨b,o,none⟩∧n=xs.length∧q=(b,o+i.toNat*K.sz c))∧(vss.length=xs.length∧∀ v∈vss,v.length=K.sz c) ∧
 (xs.length≤cap∧cap≤maxLen∧spare.length=(cap-xs.length)*K.sz c)∧(∀ x' vs',(abX K (pcS K) c (xs.set i.toNat x') (vss.set i.toNat vs')).Perm (fsS (pcS K) (K.vw c x') vs'++N)) ∧
 abW (pts b o (vss.flatten.take (i.toNat*K.sz c))::pts b (o+i.toNat*K.sz c+K.sz c) (vss.flatten.drop (i.toNat*K.sz c+K.sz c)++spare)::N) h
def aMt (A:Option Addr) (cap c:Nat) (xs:List (K.T c)) (i:Int) (o:Nat) (v:Value):aad:=fun h =>∃ (x:K.T c) (vss:List (List Value)) (vs:List Value) (N:List aad),
 (xs[i.toNat]?=some x∧vss[i.toNat]?=some vs∧vs[o]?=some v)∧(∀ x',(abX K (pcS K) c (xs.set i.toNat x') vss).Perm (fsS (pcS K) (K.vw c x') vs++N))∧o<(K.vw c x).length ∧
 abW (ae9 A xs.length cap (K.sz c) vss.flatten::(fsS (pcS K) ((K.vw c x).eraseIdx o) (vs.eraseIdx o)++N)) h
def ac6 (ρ:Env) (id:Nat):Ch K.T K.M→aad
 | .cells fs =>exL fun vs:List Value =>pts (ρ.p id).1 (ρ.p id).2 vs::fsS (fS K ρ) fs vs
 | .row c xs =>fun h =>(ρ.s id).n=xs.length∧rwS K c xs (ρ.s id).a (ρ.s id).c h
 | .ro c xs =>fun h =>(ρ.s id).n=xs.length∧roS (afG K c) (K.sz c) (ρ.s id).a (ρ.s id).c xs h
 | .rr c xss =>fun h =>(ρ.s id).n=xss.length∧rrS (afG K c) (K.sz c) (ρ.s id).a (ρ.s id).c xss h
 | .elt j i sz =>apr (axH ρ id j sz i)
 | .arr m sz vs =>fun h =>(ρ.s id=⟨some ⟨(ρ.p id).1,(ρ.p id).2,none⟩,m,m⟩∧vs.length=m*sz∧m≤maxLen)∧pts (ρ.p id).1 (ρ.p id).2 (aah ρ vs) h
 | .mach m =>pcS K (.mach m) (ρ.v id)
 | .any A =>A
 | .hole c xs i o u =>fun h =>(ρ.s id).n=xs.length∧aMt K (ρ.s id).a (ρ.s id).c c xs i o (aay ρ u) h
 | .gap c xs i e =>aMI K (ρ.s id).a (ρ.s id).n (ρ.s id).c c xs i (ρ.p e)
 | .slc e m sz =>fun h =>((ρ.s id).a=some ⟨(ρ.p e).1,(ρ.p e).2,none⟩∧(ρ.s id).n=m∧m≤(ρ.s id).c∧(ρ.s id).c≤maxLen)∧∃ spare:List Value,spare.length=((ρ.s id).c-m)*sz∧pts (ρ.p e).1 ((ρ.p e).2+m*sz) spare h
def dH (ρ:Env) (H:KT.H K):List aad:=H.map fun p =>ac6 K ρ p.1 p.2
end
section
variable {T:Nat→Type} {M:Type}
def aFs:Fd T M→Nat
 | .v x =>akf x
 | .f _ =>0
def amu:List (Fd T M)→Nat
 | [] =>0
 | f::fs =>mx (aFs f) (amu fs)
def axP:Ch T M→Nat
 | .cells fs =>amu fs
 | .elt j _ _ =>j+1
 | .arr _ _ vs =>ajh vs
 | .hole _ _ _ _ u =>akf u
 | .gap _ _ _ e =>e+1
 | .slc e _ _ =>e+1
 | _ =>0
def agm:List (Nat×Ch T M)→Nat
 | [] =>0
 | p::H =>mx (mx (p.1+1) (axP p.2)) (agm H)
theorem am4 {a b n:Nat} (h:mx a b≤n):a≤n∧b≤n:=⟨Nat.le_trans aII h,Nat.le_trans aFP h⟩
end
section
variable {K:KT} {ρ ρ':Env} {n:Nat}
theorem aEL (h:aaB n ρ ρ') (f:Fd K.T K.M) (hn:aFs f≤n):fS K ρ f=fS K ρ' f:=by
 cases f with
 | v x =>funext v; simp only [fS,aa5 h x hn]
 | f x =>rfl
theorem arf (h:aaB n ρ ρ'):∀ (fs:List (Fd K.T K.M)) (vs:List Value),amu fs≤n→fsS (fS K ρ) fs vs=fsS (fS K ρ') fs vs
 | [],[],_ =>rfl
 | f::fs,v::vs,hn =>by
  simp only [amu] at hn
  simp only [fsS,aEL h f (am4 hn).1,arf h fs vs (am4 hn).2]
 | [],_::_,_ =>rfl
 | _::_,[],_ =>rfl
theorem aeM (h:aaB n ρ ρ') {id:Nat} (hid:id<n) (c:Ch K.T K.M) (hn:axP c≤n):ac6 K ρ id c=ac6 K ρ' id c:=by
 cases c with
 | cells fs =>
  simp only [axP] at hn
  simp only [ac6,(h id hid).1]
  congr 1
  funext vs
  rw [arf h fs vs hn]
 | row c xs =>simp only [ac6,(h id hid).2.1]
 | ro c xs =>simp only [ac6,(h id hid).2.1]
 | rr c xs =>simp only [ac6,(h id hid).2.1]
 | elt j i sz =>simp only [axP] at hn; simp only [ac6,axH,(h id hid).1,(h j (by omega)).2.1]
 | arr m sz vs =>simp only [axP] at hn; simp only [ac6,(h id hid).1,(h id hid).2.1,aeI h vs hn]
 | mach m =>simp only [ac6,(h id hid).2.2]
 | any A =>rfl
 | hole c xs i o u =>simp only [axP] at hn; simp only [ac6,(h id hid).2.1,aa5 h u hn]
 | gap c xs i e =>simp only [axP] at hn; simp only [ac6,(h id hid).2.1,(h e (by omega)).1]
 | slc e m sz =>simp only [axP] at hn; simp only [ac6,(h id hid).2.1,(h e (by omega)).1]
theorem acH (h:aaB n ρ ρ'):∀ H:KT.H K,agm H≤n→dH K ρ H=dH K ρ' H
 | [],_ =>rfl
 | p::H,hn =>by
  simp only [agm] at hn
  have h1:=am4 (am4 hn).1
  show ac6 K ρ p.1 p.2::dH K ρ H=ac6 K ρ' p.1 p.2::dH K ρ' H
  rw [acH h H (am4 hn).2,aeM h h1.1 _ h1.2]
theorem atT {id:Nat} {L:List aad}:∀ {H:KT.H K},Ent (dH K ρ H++L) (dH K ρ (del H id)++L)
 | [] =>Ent.refl
 | (t,c)::H =>by
  unfold del
  split
  ·exact Ent.drop.trans atT
  ·exact Ent.cons (fun _ h =>h) atT
theorem aaV {id:Nat} {c:Ch K.T K.M} {L:List aad}:∀ {H:KT.H K},get H id=some c→Ent (dH K ρ H++L) (ac6 K ρ id c::(dH K ρ (del H id)++L))
 | [],h =>by cases h
 | (t,c')::H,h =>by
  unfold get at h
  unfold del
  split at h
  ·rename_i e
   have e':t=id:=Nat.eq_of_beq_eq_true e
   simp only [Option.some.injEq] at h
   subst e' h
   exact Ent.cons (fun _ h =>h) atT
  ·have ih:=aaV (L:=L) (H:=H) h
   exact (Ent.cons (A:=ac6 K ρ t c') (fun _ h =>h) ih).trans (Ent.perm (List.Perm.swap ..))
theorem aAb {fs:List (Fd K.T K.M)} {i:Nat} {f:Fd K.T K.M} (h:fs[i]?=some f):aFs f≤amu fs:=by
 induction fs generalizing i with
 | nil =>cases h
 | cons g fs ih =>
  cases i with
  | zero =>simp at h; subst h; exact aII
  | succ i =>exact Nat.le_trans (ih (by simpa using h)) aFP
theorem aji {id:Nat} {c:Ch K.T K.M}:∀ {H:KT.H K},get H id=some c→id<agm H∧axP c≤agm H
 | [],h =>by cases h
 | (t,c')::H,h =>by
  unfold get at h
  have hm:=am4 (Nat.le_refl (agm ((t,c')::H)))
  split at h
  ·rename_i e
   have e':t=id:=Nat.eq_of_beq_eq_true e
   simp only [Option.some.injEq] at h
   subst e' h
   exact ⟨(am4 hm.1).1,(am4 hm.1).2⟩
  ·have:=aji h
   exact ⟨Nat.lt_of_lt_of_le this.1 hm.2,Nat.le_trans this.2 hm.2⟩
theorem agl {id:Nat}:∀ {H:KT.H K},agm (del H id)≤agm H
 | [] =>Nat.le_refl _
 | (t,c)::H =>by
  unfold del
  split
  ·exact Nat.le_trans agl aFP
  ·exact arM ⟨aII,Nat.le_trans agl aFP⟩
theorem agu {F:Type} {pc:F→Value→aad}:∀ {fs:List F} {vs:List Value} {i:Nat} {f:F} {v:Value},fs[i]?=some f→vs[i]?=some v →
  (fsS pc fs vs).Perm (pc f v::fsS pc (fs.eraseIdx i) (vs.eraseIdx i))∧∀ f' v',(fsS pc (fs.set i f') (vs.set i v')).Perm (pc f' v'::fsS pc (fs.eraseIdx i) (vs.eraseIdx i))
 | [],_,_,_,_,h,_ =>by cases h
 | _::_,[],_,_,_,_,h =>by cases h
 | g::fs,u::vs,0,f,v,h,h' =>by
  simp at h h'; subst h h'
  exact ⟨.refl _,fun _ _ =>.refl _⟩
 | g::fs,u::vs,i+1,f,v,h,h' =>by
  obtain ⟨h1,h2⟩:=agu (pc:=pc) (fs:=fs) (vs:=vs) (i:=i) (by simpa using h) (by simpa using h')
  exact ⟨(h1.cons _).trans (.swap ..),fun f' v' =>((h2 f' v').cons _).trans (.swap ..)⟩
theorem aqi {K:KT}:∀ {fs:List (Fd K.T K.M)} {i:Nat},amu (fs.eraseIdx i)≤amu fs
 | [],_ =>Nat.le_refl _
 | _::_,0 =>aFP
 | _::_,_+1 =>arM ⟨aII,Nat.le_trans aqi aFP⟩
theorem amA {α:Type} {l:List α} {i:Nat} {a:α} (h:l[i]?=some a):l.set i a=l:=by
 obtain ⟨hlt,rfl⟩:=List.getElem?_eq_some_iff.1 h
 simp
theorem arb {F:Type} {pc:F→Value→aad}:∀ {fs:List F} {vs:List Value} {L:List aad} {h:Hp},abW (fsS pc fs vs++L) h→fs.length=vs.length
 | [],[],_,_,_ =>rfl
 | _::fs,_::vs,L,_,⟨_,_,_,_,_,s⟩ =>by simp [arb s]
 | [],_::_,_,_,⟨_,_,_,_,hf,_⟩ =>hf.elim
 | _::_,[],_,_,⟨_,_,_,_,hf,_⟩ =>hf.elim
theorem akl {F:Type} {pc:F→Value→aad} {fs:List F} {vs:List Value} {B:Nat} {w:World} {A:aad} {L:List aad} (s:Sat B w (A::(fsS pc fs vs++L))):fs.length=vs.length:=by
 obtain ⟨h,_,k1,k2,_,_,_,hL⟩:=s
 exact arb hL
theorem Sat.pure {B:Nat} {w:World} {p:Prop} {L:List aad} (s:Sat B w (apr p::L)):p:=by
 obtain ⟨h,_,k1,k2,_,_,hA,_⟩:=s
 exact hA
theorem aE7 {B:Nat} {w:World} {H:KT.H K} {X:List aad} {id o:Nat} {fs:List (Fd K.T K.M)} {f:Fd K.T K.M} (s:Sat B w (dH K ρ H++X)) (hg:get H id=some (.cells fs)) (hf:fs[o]?=some f) :
  ∃ vs v,vs[o]?=some v∧fs.length=vs.length∧Sat B w (pts (ρ.p id).1 (ρ.p id).2 vs::(fsS (fS K ρ) fs vs++(dH K ρ (del H id)++X)))∧w.cell? ⟨(ρ.p id).1,(ρ.p id).2+o,none⟩=some v:=by
 have s1:=s.imp (aaV (ρ:=ρ) hg)
 obtain ⟨vs,s2⟩:=ah6 s1
 have hl:=akl s2
 have ho:o<vs.length:=by rw [← hl]; exact (List.getElem?_eq_some_iff.1 hf).1
 exact ⟨vs,vs[o],List.getElem?_eq_getElem ho,hl,s2,(s2.cell (List.getElem?_eq_getElem ho)).2.1⟩
theorem aAF {B:Nat} {w:World} {A P:aad} {X Y L:List aad} (s:Sat B w (A::(X++L))) (p:X.Perm (P::Y)):Sat B w (P::A::(Y++L)) :=
 s.perm ((List.Perm.cons _ (p.append_right L)).trans (List.Perm.swap ..))
end
def Env.setP (ρ:Env) (n:Nat) (q:Nat×Nat):Env:={ ρ with p:=fun i =>if i=n then q else ρ.p i }
def Env.setS (ρ:Env) (n:Nat) (q:Sle):Env:={ ρ with s:=fun i =>if i=n then q else ρ.s i }
def Env.setV (ρ:Env) (n:Nat) (q:Value):Env:={ ρ with v:=fun i =>if i=n then q else ρ.v i }
theorem ajb (ρ:Env) (n:Nat) (q:Nat×Nat):aaB n ρ (ρ.setP n q):=fun k hk =>⟨by simp only [Env.setP]; rw [if_neg (by omega)],rfl,rfl⟩
theorem acL (ρ:Env) (n:Nat) (q:Sle):aaB n ρ (ρ.setS n q):=fun k hk =>⟨rfl,by simp only [Env.setS]; rw [if_neg (by omega)],rfl⟩
theorem asE (ρ:Env) (n:Nat) (q:Value):aaB n ρ (ρ.setV n q):=fun k hk =>⟨rfl,rfl,by simp only [Env.setV]; rw [if_neg (by omega)]⟩
section
variable {T:Nat→Type} {M:Type}
def opF (vw:(c:Nat)→T c→List (Fl T M)) (n:Nat):Fd T M→V×Option (Ch T M)
 | .v x =>(x,none)
 | .f (.i k x) =>(.i k x,none)
 | .f (.b x) =>(.b x,none)
 | .f (.c u) =>(aC3 u,none)
 | .f (.own c x) =>(.ptr n 0,some (.cells ((vw c x).map .f)))
 | .f (.row c xs) =>(.sl n,some (.row c xs))
 | .f (.ro c xs) =>(.sl n,some (.ro c xs))
 | .f (.rr c xs) =>(.sl n,some (.rr c xs))
 | .f (.mach m) =>(.mc n,some (.mach m))
 | .f .o =>(.mc n,some (.any fun _ =>True))
end
section
variable {K:KT}
theorem ara (pc:Fl K.T K.M→Value→aad) (pc':Fd K.T K.M→Value→aad) (h:∀ x v,pc' (.f x) v=pc x v):∀ (l:List (Fl K.T K.M)) (vs:List Value),fsS pc' (l.map .f) vs=fsS pc l vs
 | [],[] =>rfl
 | f::fs,v::vs =>by simp only [List.map_cons,fsS,h,ara pc pc' h fs vs]
 | [],_::_ =>rfl
 | _::_,[] =>rfl
theorem aEZ (u:Value):akf (aC3 u)=0:=by cases u<;>rfl
theorem aBq {ρ:Env} {n:Nat} {f:Fd K.T K.M} {v:Value} {k:Hp} (hn:aFs f≤n) (h:fS K ρ f v k) :
  ∃ ρ',aaB n ρ ρ'∧v=aay ρ' (opF K.vw n f).1∧(match (opF K.vw n f).2 with | none =>True | some c =>ac6 K ρ' n c k):=by
 cases f with
 | v x =>exact ⟨ρ,aaB.refl _ _,h,trivial⟩
 | f x =>
  have h2:pcS K x v k:=h
  rw [aax] at h2
  cases x with
  | i k x =>exact ⟨ρ,aaB.refl _ _,h2,trivial⟩
  | b x =>exact ⟨ρ,aaB.refl _ _,h2,trivial⟩
  | c u =>exact ⟨ρ,aaB.refl _ _,by rw [opF,ajF]; exact h2,trivial⟩
  | own c x =>
   obtain ⟨q,e,ho⟩:=h2
   refine ⟨ρ.setP n q,ajb _ _ _,?_,?_⟩
   ·rw [e]; simp [opF,aay,Env.setP]
   ·rw [aiv] at ho
    obtain ⟨vs,s⟩:=ho
    refine ⟨vs,?_⟩
    simp only [Env.setP,if_true]
    rw [ara (pcS K) _ (fun x v =>rfl)]
    exact s
  | row c xs =>
   obtain ⟨A,cap,e,ho⟩:=h2
   refine ⟨ρ.setS n ⟨A,xs.length,cap⟩,acL _ _ _,?_,?_,?_⟩
   ·rw [e]; simp [opF,aay,Env.setS]
   ·simp [Env.setS]
   ·simpa [Env.setS] using ho
  | ro c xs =>
   obtain ⟨A,cap,e,ho⟩:=h2
   refine ⟨ρ.setS n ⟨A,xs.length,cap⟩,acL _ _ _,?_,?_,?_⟩
   ·rw [e]; simp [opF,aay,Env.setS]
   ·simp [Env.setS]
   ·simpa [Env.setS] using ho
  | rr c xs =>
   obtain ⟨A,cap,e,ho⟩:=h2
   refine ⟨ρ.setS n ⟨A,xs.length,cap⟩,acL _ _ _,?_,?_,?_⟩
   ·rw [e]; simp [opF,aay,Env.setS]
   ·simp [Env.setS]
   ·simpa [Env.setS] using ho
  | mach m =>
   refine ⟨ρ.setV n v,asE _ _ _,?_,?_⟩
   ·simp [opF,aay,Env.setV]
   ·simp only [opF,ac6,Env.setV,if_true]
    exact h
  | o =>exact ⟨ρ.setV n v,asE _ _ _,by simp [opF,aay,Env.setV],trivial⟩
theorem aiu {n:Nat} {f:Fd K.T K.M} (hn:aFs f≤n):akf (opF K.vw n f).1≤n+1∧(∀ c,(opF K.vw n f).2=some c→axP c≤n):=by
 cases f with
 | v x =>exact ⟨Nat.le_succ_of_le hn,fun c h =>by cases h⟩
 | f x =>
  cases x<;>refine ⟨?_,fun c h =>?_⟩<;>simp only [opF,akf,aEZ] at*<;> first | omega | (cases h; done) | (cases h; simp only [axP])<;>try omega
  ·rename_i c x
   have:∀ l:List (Fl K.T K.M),amu (l.map (Fd.f:Fl K.T K.M→Fd K.T K.M))=0:=fun l =>by
    induction l with
    | nil =>rfl
    | cons y l ih =>simp only [List.map_cons,amu,ih,aFs]; rfl
   rw [this]; omega
end
structure Nx (K:KT) where
 ρ:Env
 n:Nat
 H:KT.H K
 v:V
def tl (K:KT) (Z:KT.H K) (F:aad) (ρ:Env):List aad:=dH K ρ Z++[F]
theorem adP {K:KT} {Z:KT.H K} {F:aad} {n:Nat} (h:agm Z≤n) {ρ ρ':Env} (ha:aaB n ρ ρ'):tl K Z F ρ=tl K Z F ρ':=by unfold tl; rw [acH ha Z h]
abbrev dS (K:KT) (ρ:Env) (Z H:KT.H K) (F:aad):List aad:=dH K ρ H++tl K Z F ρ
def afz (K:KT) (P:Program) (nt B:Nat) (W:World) (o:Oper) (R:aa6) (n:Nat) (Z H:KT.H K) (nx:Nat→KT.H K→V→Prop):Prop :=
 ∀ F ρ a w,Sta nt B W (dR ρ R) (dS K ρ Z H F) a w→akZ P (fun (x:Nx K) w' =>(aaB n ρ x.ρ∧n≤x.n∧dR x.ρ R=dR ρ R∧nx x.n x.H x.v)∧Cls B W (dS K x.ρ Z x.H F) w') (fun x =>aay x.ρ x.v) ((execOp a.eval o).run P w)
section
variable {K:KT} {r:Option Nat} {P:Program} {ops:Array Oper} {Q:Exit→Act→World→Prop} {nt n B:Nat} {W:World} {R:aa6} {Z H:KT.H K} {ρ:Env} {o:Oper} {rest:List Oper} {nx:Nat→KT.H K→V→Prop} {F:aad}
theorem aGX (h:afz K P nt B W o R n Z H nx) (hd:aHa nt o.dst=true) (hg:akX ops (dR ρ R) o.guard true) (k:∀ ρ' n' H' v,aaB n ρ ρ'→n≤n'→nx n' H' v→RT r P ops Q nt B W rest (dR ρ' (ar6 R o.dst v)) (dS K ρ' Z H' F)):RT r P ops Q nt B W (o::rest) (dR ρ R) (dS K ρ Z H F):=fun a w s =>by
 unfold wpListIn
 rw [if_pos (hg.spec s.regs)]
 refine aqd (h F ρ a w s) fun x w' ⟨⟨ha,hn,hR,hx⟩,hw'⟩ =>?_
 have s1:Regs nt a (dR x.ρ R):=hR▸s.regs
 exact k x.ρ x.n x.H x.v ha hn hx _ _ (hw'.st (afP hd a s1))
def aBy (H:KT.H K) (id:Nat):Option Nat:=match get H id with
 | some (.row _ xs) =>some xs.length
 | some (.ro _ xs) =>some xs.length
 | some (.rr _ xs) =>some xs.length
 | some (.hole _ xs _ _ _) =>some xs.length
 | some (.gap _ xs _ _) =>some xs.length
 | _ =>none
theorem ajv {H:KT.H K} {id m:Nat} (h:aBy H id=some m) {w:World} {X:List aad} (s:Sat B w (dH K ρ H++X)):(ρ.s id).n=m:=by
 unfold aBy at h
 split at h
 ·rename_i hg
  cases h
  obtain ⟨hh,Hh,k1,k2,a,e,⟨h1',h2⟩,hL⟩:=s.imp (aaV (ρ:=ρ) hg)
  exact h1'
 ·rename_i hg
  cases h
  obtain ⟨hh,Hh,k1,k2,a,e,⟨h1',h2⟩,hL⟩:=s.imp (aaV (ρ:=ρ) hg)
  exact h1'
 ·rename_i hg
  cases h
  obtain ⟨hh,Hh,k1,k2,a,e,⟨h1',h2⟩,hL⟩:=s.imp (aaV (ρ:=ρ) hg)
  exact h1'
 ·rename_i hg
  cases h
  obtain ⟨hh,Hh,k1,k2,a,e,⟨h1',h2⟩,hL⟩:=s.imp (aaV (ρ:=ρ) hg)
  exact h1'
 ·rename_i hg
  cases h
  obtain ⟨hh,Hh,k1,k2,a,e,⟨_,_,_,_,_,_,⟨_,h1',_⟩,_⟩,hL⟩:=s.imp (aaV (ρ:=ρ) hg)
  exact h1'
 ·cases h
end
def atL {α:Type} (d:α) (xs:List α) (i:Int):α:=(xs[i.toNat]?).getD d
def scF {T:Nat→Type} {M:Type}:Fl T M→Option V
 | .i k x =>some (.i k x)
 | .b x =>some (.b x)
 | .c u =>some (aC3 u)
 | _ =>none
section
variable {K:KT} {ρ:Env}
theorem aGP {f:Fl K.T K.M} {v:V} (h:scF f=some v):aay ρ v=flV f:=by
 cases f<;>simp [scF] at h<;>subst h<;>first | rfl | exact ajF ..
theorem aJa {f:Fl K.T K.M} {v:V} {u:Value} {k:Hp} (h:scF f=some v) (hp:pcS K f u k):u=aay ρ v:=by
 rw [aax] at hp
 cases f<;>simp [scF] at h<;>subst h<;>simp only [aay,ajF]<;>exact hp
theorem ali {vss:List (List Value)} {sz:Nat} (hl:∀ vs∈vss,vs.length=sz):∀ {i o:Nat} {vs:List Value} {v:Value},vss[i]?=some vs→vs[o]?=some v→vss.flatten[i*sz+o]?=some v:=by
 induction vss with
 | nil =>intro i o vs v h; cases h
 | cons us vss ih =>
  intro i o vs v h h'
  have h0:=hl us (List.mem_cons_self ..)
  cases i with
  | zero =>
   simp at h; subst h
   rw [List.flatten_cons,Nat.zero_mul,Nat.zero_add,List.getElem?_append_left (List.getElem?_eq_some_iff.1 h').1]; exact h'
  | succ i =>
   rw [List.flatten_cons,List.getElem?_append_right (by rw [h0,Nat.add_mul]; omega)]
   have:=ih (fun vs h =>hl vs (List.mem_cons_of_mem _ h)) (i:=i) (by simpa using h) h'
   rw [← this]; congr 1; rw [h0,Nat.add_mul]; omega
theorem aiJ {pc:Fl K.T K.M→Value→aad} {c:Nat}:∀ {xs:List (K.T c)} {vss:List (List Value)} {i:Nat} {x:K.T c} {vs:List Value},xs[i]?=some x→vss[i]?=some vs →
  ∃ M,(abX K pc c xs vss).Perm (fsS pc (K.vw c x) vs++M)∧∀ x' vs',(abX K pc c (xs.set i x') (vss.set i vs')).Perm (fsS pc (K.vw c x') vs'++M)
 | [],_,_,_,_,h,_ =>by cases h
 | _::_,[],_,_,_,_,h =>by cases h
 | g::xs,u::vss,0,x,vs,h,h' =>by
  simp at h h'; subst h h'
  exact ⟨abX K pc c xs vss,.refl _,fun _ _ =>.refl _⟩
 | g::xs,u::vss,i+1,x,vs,h,h' =>by
  obtain ⟨M,h1,h2⟩:=aiJ (pc:=pc) (xs:=xs) (vss:=vss) (i:=i) (by simpa using h) (by simpa using h')
  refine ⟨fsS pc (K.vw c g) u++M,?_,fun x' vs' =>?_⟩
  ·exact (h1.append_left _).trans (by rw [← List.append_assoc,← List.append_assoc]; exact List.perm_append_comm.append_right _)
  ·exact ((h2 x' vs').append_left _).trans (by rw [← List.append_assoc,← List.append_assoc]; exact List.perm_append_comm.append_right _)
theorem axX {pc:Fl K.T K.M→Value→aad} {c:Nat}:∀ {xs:List (K.T c)} {vss:List (List Value)} {L:List aad} {h:Hp},abW (abX K pc c xs vss++L) h→xs.length=vss.length∧∀ (i:Nat) (x:K.T c) (vs:List Value),xs[i]?=some x→vss[i]?=some vs→(K.vw c x).length=vs.length
 | [],[],_,_,_ =>⟨rfl,fun _ _ _ h =>by cases h⟩
 | x::xs,vs::vss,L,h,s =>by
  have s':abW (fsS pc (K.vw c x) vs++(abX K pc c xs vss++L)) h:=by simpa [abX] using s
  have h1:=arb s'
  obtain ⟨k1,k2,a,e,_,s2⟩:=aaj.1 s'
  obtain ⟨h2,h3⟩:=axX s2
  refine ⟨by simp [h2],fun i y us hy hu =>?_⟩
  cases i with
  | zero =>simp at hy hu; subst hy hu; exact h1
  | succ i =>exact h3 i y us (by simpa using hy) (by simpa using hu)
 | [],_::_,_,_,⟨_,_,_,_,hf,_⟩ =>hf.elim
 | _::_,[],_,_,⟨_,_,_,_,hf,_⟩ =>hf.elim
theorem aGT {pc:Fl K.T K.M→Value→aad} {c:Nat} {xs:List (K.T c)} {vss:List (List Value)} {L:List aad} {h:Hp} (s:abW (abX K pc c xs vss++L) h):xs.length=vss.length∧∀ vs∈vss,vs.length=K.sz c:=by
 obtain ⟨h1,h2⟩:=axX s
 refine ⟨h1,fun vs hv =>?_⟩
 obtain ⟨i,hi⟩:=List.mem_iff_getElem?.1 hv
 have hlt:i<xs.length:=by rw [h1]; exact (List.getElem?_eq_some_iff.1 hi).1
 rw [← h2 i _ vs (List.getElem?_eq_getElem hlt) hi,K.sz_ok]
theorem alG {B:Nat} {w:World} {H:KT.H K} {X:List aad} {j c:Nat} {xs:List (K.T c)} (s:Sat B w (dH K ρ H++X)) (hg:get H j=some (.row c xs)) :
  (ρ.s j).n=xs.length∧∃ vss:List (List Value),xs.length=vss.length∧(∀ vs∈vss,vs.length=K.sz c)∧Sat B w (ae9 (ρ.s j).a xs.length (ρ.s j).c (K.sz c) vss.flatten::(abX K (pcS K) c xs vss++(dH K ρ (del H j)++X))):=by
 obtain ⟨h,Hh,k1,k2,a,e,⟨h1',h2⟩,hL⟩:=s.imp (aaV (ρ:=ρ) hg)
 rw [ac8] at h2
 obtain ⟨vss,s2⟩:=h2
 have s3:abW ((ae9 (ρ.s j).a xs.length (ρ.s j).c (K.sz c) vss.flatten::abX K (pcS K) c xs vss)++(dH K ρ (del H j)++X)) h:=aaj.2 ⟨k1,k2,a,e,s2,hL⟩
 have h3:xs.length=vss.length∧∀ vs∈vss,vs.length=K.sz c:=by
  obtain ⟨q1,q2,a',e',_,hq⟩:=s2
  exact aGT (L:=[]) (by simpa using hq)
 exact ⟨h1',vss,h3.1,h3.2,h,Hh,s3⟩
theorem avK {B:Nat} {w:World} {H:KT.H K} {X:List aad} {id j sz:Nat} {i:Int} (s:Sat B w (dH K ρ H++X)) (hg:get H id=some (.elt j i sz)):axH ρ id j sz i:=(s.imp (aaV (ρ:=ρ) hg)).pure
theorem adL {α:Type} {d:α} {xs:List α} {i:Int} (h:0≤i∧i<(xs.length:Int)):xs[i.toNat]?=some (atL d xs i):=by
 have:i.toNat<xs.length:=by omega
 simp [atL,this]
theorem ax1 {B:Nat} {w:World} {H:KT.H K} {X:List aad} {id j c o:Nat} {i:Int} {xs:List (K.T c)} {f:Fl K.T K.M} (s:Sat B w (dH K ρ H++X)) (hg:get H j=some (.row c xs)) (he:axH ρ id j (K.sz c) i) (hf:(K.vw c (atL (K.df c) xs i))[o]?=some f) :
  ∃ v,w.cell? ⟨(ρ.p id).1,(ρ.p id).2+o,none⟩=some v∧∃ L,Sat B w (pcS K f v::L)∧Ent (pcS K f v::L) (ac6 K ρ j (.row c xs)::(dH K ρ (del H j)++X)):=by
 obtain ⟨h1',vss,h2,h3,s2⟩:=alG s hg
 obtain ⟨hi,b,o',hA,hp⟩:=he
 rw [h1'] at hi
 have hx:=adL (d:=K.df c) hi
 have hlt:i.toNat<vss.length:=by omega
 have hvs:vss[i.toNat]?=some vss[i.toNat]:=List.getElem?_eq_getElem hlt
 have hsz:=h3 _ (List.getElem_mem hlt)
 have hol:o<vss[i.toNat].length:=by rw [hsz,← K.sz_ok c (atL (K.df c) xs i)]; exact (List.getElem?_eq_some_iff.1 hf).1
 have hov:(vss[i.toNat])[o]?=some (vss[i.toNat])[o]:=List.getElem?_eq_getElem hol
 have hfl:=ali h3 hvs hov
 obtain ⟨r1,r2,r3,r4⟩:=agp s2 (List.mem_cons_self ..)
 refine ⟨(vss[i.toNat])[o],?_,?_⟩
 ·rcases r4 with ⟨r4,_⟩ | ⟨b2,o2,r4,r5⟩
  ·rw [r4] at hA; cases hA
  ·rw [r4] at hA
   cases hA
   rw [hp]
   have:=r5 _ _ hfl
   rw [← Nat.add_assoc] at this
   exact this
 ·obtain ⟨M,p1,_⟩:=aiJ (pc:=pcS K) hx hvs
  have p2:=(agu (pc:=pcS K) hf hov).1
  have p3:=p1.trans (p2.append_right M)
  refine ⟨_,aAF s2 p3,fun k hk =>?_⟩
  have s5:abW ((ae9 (ρ.s j).a xs.length (ρ.s j).c (K.sz c) vss.flatten::abX K (pcS K) c xs vss)++(dH K ρ (del H j)++X)) k:=by
   refine abM ?_ hk
   exact (List.Perm.swap ..).trans (List.Perm.cons _ (p3.symm.append_right _))
  obtain ⟨j1,j2,a'',e'',g1,g2⟩:=aaj.1 s5
  exact ⟨j1,j2,a'',e'',⟨h1',ac8.2 ⟨vss,g1⟩⟩,g2⟩
theorem aG4 {B:Nat} {w:World} {H:KT.H K} {X:List aad} {id j c o:Nat} {i:Int} {xs:List (K.T c)} {f:Fl K.T K.M} (s:Sat B w (dH K ρ H++X)) (hg:get H j=some (.ro c xs)) (he:axH ρ id j (K.sz c) i) (hf:(K.vw c (atL (K.df c) xs i))[o]?=some f) :
  w.cell? ⟨(ρ.p id).1,(ρ.p id).2+o,none⟩=some (flV f):=by
 obtain ⟨h,Hh,k1,k2,a,e,⟨h1',h2⟩,hL⟩:=s.imp (aaV (ρ:=ρ) hg)
 have s2:Sat B w (roS (afG K c) (K.sz c) (ρ.s j).a (ρ.s j).c xs::(dH K ρ (del H j)++X)):=⟨h,Hh,k1,k2,a,e,h2,hL⟩
 obtain ⟨hi,b,o',hA,hp⟩:=he
 rw [h1'] at hi
 have hlt:i.toNat<xs.length:=by omega
 obtain ⟨b2,o2,hA2,_,hc⟩:=(arJ s2 (List.mem_cons_self ..)).1.at_ hlt
 rw [hA] at hA2
 cases hA2
 have hx:=adL (d:=K.df c) hi
 have he2:xs[i.toNat]=atL (K.df c) xs i:=(List.getElem?_eq_some_iff.1 hx).2
 have:=hc i.toNat hlt o (flV f) (by rw [he2]; unfold afG; rw [List.getElem?_map,hf]; rfl)
 rw [hp]; exact this
end
section
variable {K:KT} {ρ:Env}
theorem aBI {B:Nat} {w:World} {H:KT.H K} {X:Env→List aad} {id j c o n:Nat} {i:Int} {xs:List (K.T c)} {f:Fl K.T K.M} {V0:V} {ch:Ch K.T K.M} (hop:opF K.vw n (.f f)=(V0,some ch)) (hn:agm H≤n) (hX:∀ ρ',aaB n ρ ρ'→X ρ=X ρ')
  (s:Sat B w (dH K ρ H++X ρ)) (hg:get H j=some (.row c xs)) (he:axH ρ id j (K.sz c) i) (hf:(K.vw c (atL (K.df c) xs i))[o]?=some f) :
  ∃ ρ',aaB n ρ ρ'∧Sat B w (dH K ρ' ((n,ch)::(j,.hole c xs i o V0)::del H j)++X ρ')∧w.cell? ⟨(ρ.p id).1,(ρ.p id).2+o,none⟩=some (aay ρ' V0):=by
 obtain ⟨h1',vss,h2,h3,s2⟩:=alG s hg
 obtain ⟨hi,b,o',hA,hp⟩:=he
 rw [h1'] at hi
 have hx:=adL (d:=K.df c) hi
 have hlt:i.toNat<vss.length:=by omega
 have hvs:vss[i.toNat]?=some vss[i.toNat]:=List.getElem?_eq_getElem hlt
 have hsz:=h3 _ (List.getElem_mem hlt)
 have hol:o<vss[i.toNat].length:=by rw [hsz,← K.sz_ok c (atL (K.df c) xs i)]; exact (List.getElem?_eq_some_iff.1 hf).1
 have hov:(vss[i.toNat])[o]?=some (vss[i.toNat])[o]:=List.getElem?_eq_getElem hol
 have hfl:=ali h3 hvs hov
 obtain ⟨r1,r2,r3,r4⟩:=agp s2 (List.mem_cons_self ..)
 have hcell:w.cell? ⟨(ρ.p id).1,(ρ.p id).2+o,none⟩=some (vss[i.toNat])[o]:=by
  rcases r4 with ⟨r4,_⟩ | ⟨b2,o2,r4,r5⟩
  ·rw [r4] at hA; cases hA
  ·rw [r4] at hA
   cases hA
   rw [hp]
   have:=r5 _ _ hfl
   rw [← Nat.add_assoc] at this
   exact this
 obtain ⟨M,p1,p1'⟩:=aiJ (pc:=pcS K) hx hvs
 have p2:=(agu (pc:=pcS K) hf hov).1
 have p3:=p1.trans (p2.append_right M)
 have s3:Sat B w (pcS K f (vss[i.toNat])[o]::((ae9 (ρ.s j).a xs.length (ρ.s j).c (K.sz c) vss.flatten::(fsS (pcS K) ((K.vw c (atL (K.df c) xs i)).eraseIdx o) ((vss[i.toNat]).eraseIdx o)++M))++(dH K ρ (del H j)++X ρ))):=s2.perm (by
  refine (List.Perm.cons _ (p3.append_right _)).trans ?_
  exact List.Perm.swap ..)
 obtain ⟨hh,Hh,k1,k2,a,e,hA1,hL⟩:=s3
 have hfF:fS K ρ (.f f) (vss[i.toNat])[o] k1:=hA1
 obtain ⟨ρ',ha,hv,hd⟩:=aBq (Nat.zero_le _) hfF
 rw [hop] at hv hd
 simp only at hv hd
 refine ⟨ρ',ha,?_,by rw [hcell,hv]⟩
 have hgt:=aji hg
 have hjn:j<n:=Nat.lt_of_lt_of_le hgt.1 hn
 obtain ⟨q1,q2,a',e',g1,g2⟩:=aaj.1 hL
 rw [acH ha (del H j) (Nat.le_trans agl hn),hX _ ha] at g2
 refine ⟨hh,Hh,k1,k2,a,e,hd,q1,q2,a',e',⟨by rw [← (ha j hjn).2.1]; exact h1',?_⟩,g2⟩
 rw [← (ha j hjn).2.1]
 refine ⟨atL (K.df c) xs i,vss,vss[i.toNat],M,⟨hx,hvs,by rw [← hv]; exact hov⟩,fun x' =>?_,(List.getElem?_eq_some_iff.1 hf).1,g1⟩
 have:=p1' x' vss[i.toNat]
 rw [amA hvs] at this
 exact this
theorem azD {B:Nat} {w:World} {id c o:Nat} {i:Int} {xs:List (K.T c)} {u:V} {f':Fl K.T K.M} {x':K.T c} {L:List aad} (hx':K.vw c x'=(K.vw c (atL (K.df c) xs i)).set o f')
  (s:Sat B w (ac6 K ρ id (.hole c xs i o u)::pcS K f' (aay ρ u)::L)):Sat B w ((fun h =>(ρ.s id).n=(xs.set i.toNat x').length∧rwS K c (xs.set i.toNat x') (ρ.s id).a (ρ.s id).c h)::L):=by
 obtain ⟨hh,Hh,k1,k2,a,e,⟨h1,x,vss,vs,N,⟨hx,hvs,hov⟩,hp,ho,hst⟩,hL⟩:=s
 obtain rfl:x=atL (K.df c) xs i:=by unfold atL; rw [hx]; rfl
 have s2:abW ((ae9 (ρ.s id).a xs.length (ρ.s id).c (K.sz c) vss.flatten::(fsS (pcS K) ((K.vw c (atL (K.df c) xs i)).eraseIdx o) (vs.eraseIdx o)++N))++(pcS K f' (aay ρ u)::L)) hh:=aaj.2 ⟨k1,k2,a,e,hst,hL⟩
 have hf:(K.vw c (atL (K.df c) xs i))[o]?=some (K.vw c (atL (K.df c) xs i))[o]:=List.getElem?_eq_getElem ho
 have p2:=(agu (pc:=pcS K) hf hov).2 f' (aay ρ u)
 rw [amA hov,← hx'] at p2
 have s3:abW ((ae9 (ρ.s id).a xs.length (ρ.s id).c (K.sz c) vss.flatten::abX K (pcS K) c (xs.set i.toNat x') vss)++L) hh:=by
  refine abM ?_ s2
  refine List.Perm.cons _ ?_
  refine List.Perm.trans ?_ (((hp x').trans (p2.append_right N)).symm.append_right L)
  simp only [List.cons_append,List.append_assoc]
  exact (List.perm_middle (l₁:=fsS (pcS K) ((K.vw c (atL (K.df c) xs i)).eraseIdx o) (vs.eraseIdx o)++N)).trans (by rw [List.append_assoc])
 obtain ⟨j1,j2,a'',e'',g1,g2⟩:=aaj.1 s3
 refine ⟨hh,Hh,j1,j2,a'',e'',⟨by rw [List.length_set]; exact h1,ac8.2 ⟨vss,?_⟩⟩,g2⟩
 rw [List.length_set]; exact g1
end
section
variable (K:KT)
def opn (n:Nat) (H:KT.H K) (id o:Nat):Option (Bool×KT.H K×V) :=
 match get H id with
 | some (.cells fs) =>match fs[o]? with
  | some f =>match opF K.vw n f with
   | (v,none) =>some (false,H,v)
   | (v,some c) =>match Nat.ble (agm H) n with
    | true =>some (true,(n,c)::(id,.cells (fs.set o (.v v)))::del H id,v)
    | false =>none
  | none =>none
 | some (.elt j i sz) =>match get H j with
  | some (.row c xs) =>match Nat.beq sz (K.sz c) with
   | true =>match (K.vw c (atL (K.df c) xs i))[o]? with
    | some (.ro c' ys) =>match Nat.ble (agm H) n with
     | true =>some (true,(n,.ro c' ys)::(j,.row c xs)::del H j,.sl n)
     | false =>none
    | some f =>match scF f with
     | some v =>some (false,H,v)
     | none =>match opF K.vw n (.f f) with
      | (v,some ch) =>match Nat.ble (agm H) n with
       | true =>some (true,(n,ch)::(j,.hole c xs i o v)::del H j,v)
       | false =>none
      | (_,none) =>none
    | none =>none
   | false =>none
  | some (.ro c xs) =>match Nat.beq sz (K.sz c) with
   | true =>match (K.vw c (atL (K.df c) xs i))[o]? with
    | some f =>(scF f).map fun v =>(false,H,v)
    | none =>none
   | false =>none
  | some (.rr c xss) =>match Nat.beq sz 1 && Nat.beq o 0 && Nat.ble (agm H) n with
   | true =>some (true,(n,.ro c (atL [] xss i))::(j,.rr c xss)::del H j,.sl n)
   | false =>none
  | _ =>none
 | _ =>none
end
section
variable {K:KT}
theorem avj {n:Nat} {H H':KT.H K} {id o:Nat} {v:V} {ch:Bool} (h:opn K n H id o=some (ch,H',v)) {ρ:Env} {B:Nat} {w:World} {X:Env→List aad} (hX:ch=true→∀ ρ',aaB n ρ ρ'→X ρ=X ρ') (s:Sat B w (dH K ρ H++X ρ)) :
  ∃ ρ',(aaB n ρ ρ'∧(ch=false→ρ'=ρ))∧Sat B w (dH K ρ' H'++X ρ')∧w.cell? ⟨(ρ.p id).1,(ρ.p id).2+o,none⟩=some (aay ρ' v):=by
 unfold opn at h
 split at h
 ·rename_i fs hg
  split at h
  ·rename_i f hf
   obtain ⟨vs,u,hu,hl,s2,hc⟩:=aE7 s hg hf
   have p1:=(agu (pc:=fS K ρ) hf hu).1
   have s3:=aAF s2 p1
   split at h
   ·rename_i v' hop
    cases h
    obtain ⟨hh,Hh,k1,k2,a,e,hA,hL⟩:=s3
    -- a value that brings nothing with it
    have key:u=aay ρ v:=by
     cases f with
     | v x =>cases hop; exact hA
     | f x =>
      have hp:pcS K x u k1:=hA
      cases x<;>simp only [opF,Prod.mk.injEq,reduceCtorEq,and_false,and_true] at hop<;>subst hop<;>rw [aax] at hp<;>simp only [aay,ajF]<;>exact hp
    exact ⟨ρ,⟨aaB.refl _ _,fun _ =>rfl⟩,s,by rw [hc,key]⟩
   ·rename_i v' c hop
    split at h
    ·rename_i hb
     cases h
     have hn:agm H≤n:=Nat.le_of_ble_eq_true hb
     have hgt:=aji hg
     obtain ⟨hh,Hh,k1,k2,a,e,hA,hL⟩:=s3
     have hft:aFs f≤n:=Nat.le_trans (aAb hf) (Nat.le_trans hgt.2 hn)
     obtain ⟨ρ',ha,hv,hd⟩:=aBq hft hA
     rw [hop] at hv hd
     simp only at hv hd
     refine ⟨ρ',⟨ha,fun e =>by cases e⟩,?_,by rw [hc,hv]⟩
     have hid:id<n:=Nat.lt_of_lt_of_le hgt.1 hn
     have e0:=arf ha (fs.eraseIdx o) (vs.eraseIdx o) (Nat.le_trans aqi (Nat.le_trans hgt.2 hn))
     have e1:dH K ρ (del H id)=dH K ρ' (del H id):=acH ha _ (Nat.le_trans agl hn)
     rw [e0,e1,(ha id hid).1,hX rfl _ ha] at hL
     have p2:=(agu (pc:=fS K ρ') hf hu).2 (.v v) u
     rw [amA hu] at p2
     refine ⟨hh,Hh,k1,k2,a,e,hd,?_⟩
     obtain ⟨q1,q2,a',e',hp,hq⟩:=hL
     have s6:abW ((pts (ρ'.p id).1 (ρ'.p id).2 vs::fsS (fS K ρ') (fs.set o (.v v)) vs)++(dH K ρ' (del H id)++X ρ')) k2:=by
      refine ⟨q1,q2,a',e',hp,abM (p2.symm.append_right _) ?_⟩
      exact (arl (L:=fsS (fS K ρ') (fs.eraseIdx o) (vs.eraseIdx o)++(dH K ρ' (del H id)++X ρ')) hv) q2 hq
     obtain ⟨j1,j2,a'',e'',g1,g2⟩:=aaj.1 s6
     exact ⟨j1,j2,a'',e'',⟨vs,g1⟩,g2⟩
    ·cases h
  ·cases h
 ·rename_i j i sz hj0
  have he0:=avK s hj0
  split at h
  ·rename_i c xs hj
   split at h
   ·rename_i hsz
    obtain rfl:=Nat.eq_of_beq_eq_true hsz
    have he:=he0
    split at h
    ·rename_i c' ys hf
     split at h
     ·rename_i hb
      cases h
      have hn:agm H≤n:=Nat.le_of_ble_eq_true hb
      obtain ⟨u,hc,L,s2,back⟩:=ax1 s hj he hf
      have hgt:=aji hj
      have hjn:j<n:=Nat.lt_of_lt_of_le hgt.1 hn
      obtain ⟨hh,Hh,k1,k2,a,e,hA,hL⟩:=s2
      have hA':=hA
      rw [aax] at hA'
      obtain ⟨A,cap,hu,hro⟩:=hA'
      have s3:Sat B w (roS (afG K c') (K.sz c') A cap ys::L):=⟨hh,Hh,k1,k2,a,e,hro,hL⟩
      have ha:=acL ρ n ⟨A,ys.length,cap⟩
      have e1:dH K ρ (del H j)=dH K (ρ.setS n ⟨A,ys.length,cap⟩) (del H j):=acH ha _ (Nat.le_trans agl hn)
      have e2:ac6 K ρ j (.row c xs)=ac6 K (ρ.setS n ⟨A,ys.length,cap⟩) j (.row c xs):=aeM ha hjn _ (Nat.le_trans hgt.2 hn)
      refine ⟨_,⟨ha,fun e =>by cases e⟩,?_,by rw [hc,hu]; simp [aay,Env.setS]⟩
      have s4:=s3.imp ax3
      refine s4.imp fun k hk =>?_
      refine aaJ (fun k hk =>?_) (abp (fun k hk =>?_) hk)
      ·exact ⟨by simp [Env.setS],by simpa [Env.setS] using hk⟩
      ·have fold:∀ q:Hp,roS (afG K c') (K.sz c') A cap ys q→pcS K (.ro c' ys) u q:=fun q hq =>(aax (K:=K)).2 (show pcW K (obS K) (rwS K) (.ro c' ys) u q from ⟨A,cap,hu,hq⟩)
       have:=back k (aaJ fold hk)
       rw [e1,e2,hX rfl _ ha] at this
       exact this
     ·cases h
    ·rename_i f _ hf
     split at h
     ·rename_i v' hv
      cases h
      obtain ⟨u,hc,L,⟨hh,Hh,k1,k2,a,e,hA,hL⟩,_⟩:=ax1 s hj he hf
      exact ⟨ρ,⟨aaB.refl _ _,fun _ =>rfl⟩,s,by rw [hc,aJa hv hA]⟩
     ·split at h
      ·rename_i v' ch' hop
       split at h
       ·rename_i hb
        cases h
        obtain ⟨ρ',ha,hs,hc⟩:=aBI hop (Nat.le_of_ble_eq_true hb) (hX rfl) s hj he hf
        exact ⟨ρ',⟨ha,fun e =>by cases e⟩,hs,hc⟩
       ·cases h
      ·cases h
    ·cases h
   ·cases h
  ·rename_i c xs hj
   split at h
   ·rename_i hsz
    obtain rfl:=Nat.eq_of_beq_eq_true hsz
    have he:=he0
    split at h
    ·rename_i f hf
     simp only [Option.map_eq_some_iff,Prod.mk.injEq] at h
     obtain ⟨v',hv,rfl,rfl,rfl⟩:=h
     exact ⟨ρ,⟨aaB.refl _ _,fun _ =>rfl⟩,s,by rw [aG4 s hj he hf,aGP hv]⟩
    ·cases h
   ·cases h
  ·rename_i c xss hj
   split at h
   ·rename_i hB
    cases h
    simp only [Bool.and_eq_true] at hB
    obtain ⟨⟨b1,b2⟩,b3⟩:=hB
    obtain rfl:=Nat.eq_of_beq_eq_true b1
    obtain rfl:=Nat.eq_of_beq_eq_true b2
    have hn:agm H≤n:=Nat.le_of_ble_eq_true b3
    have hgt:=aji hj
    have hjn:j<n:=Nat.lt_of_lt_of_le hgt.1 hn
    obtain ⟨hi,b,o',hA,hp⟩:=he0
    obtain ⟨hh,Hh,k1,k2,a,e,⟨h1',ps,h2⟩,hL⟩:=s.imp (aaV (ρ:=ρ) hj)
    rw [h1'] at hi
    have hx:=adL (d:=([]:List (K.T c))) hi
    have s2:Sat B w (af1 _::(dH K ρ (del H j)++X ρ)):=⟨hh,Hh,k1,k2,a,e,h2,hL⟩
    obtain ⟨q,hq,_,b2,o2,hA2,_,hc⟩:=(am7 s2 (List.mem_cons_self ..)).2 _ _ hx
    rw [hA] at hA2
    cases hA2
    have ha:=acL ρ n ⟨q.1,(atL [] xss i).length,q.2⟩
    have e1:dH K ρ (del H j)=dH K (ρ.setS n ⟨q.1,(atL [] xss i).length,q.2⟩) (del H j):=acH ha _ (Nat.le_trans agl hn)
    refine ⟨_,⟨ha,fun e =>by cases e⟩,?_,by rw [hp,Nat.mul_one,Nat.add_zero,hc]; simp [aay,Env.setS]⟩
    have s3:=s2.imp am8
    refine s3.imp fun k hk =>?_
    rw [e1,hX rfl _ ha] at hk
    refine aaJ (fun k hk =>?_) (abp (fun k hk =>aaJ (fun k hk =>?_) hk) hk)
    ·refine ⟨by simp [Env.setS],?_⟩
     have:=aeF (Ψ:=fun u =>Sl (afG K c) (K.sz c) u u.heap.size q.1 (atL [] xss i)∧(atL [] xss i).length≤q.2) (fun u hu =>by
      obtain ⟨q',hq',hs,_⟩:=hu.2 _ _ hx
      rw [hq] at hq'
      cases hq'
      exact hs) k hk
     have this2:roS (afG K c) (K.sz c) q.1 q.2 (atL [] xss i) k:=this
     simpa [Env.setS] using this2
    ·have hjn':j≠n:=by omega
     exact ⟨by simpa [Env.setS,hjn'] using h1',ps,by simpa [Env.setS,hjn'] using hk⟩
   ·cases h
  ·cases h
 ·cases h
end
end
end Go.Proofs.YtidhehdanppcoaaGreat
