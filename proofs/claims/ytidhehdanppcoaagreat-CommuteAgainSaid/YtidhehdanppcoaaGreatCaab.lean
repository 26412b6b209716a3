/- Evaluation by itself,2: operations on registers alone. No program occurs here. Objects that are owned; a range over a function whose rounds are told what lies at their argument. No program occurs here. What a call has made and hands back,held to be read: no program occurs here. What is held to be read by many; rows of things that hold a list of numbers; entailments in the world. No program occurs here. Rows of things each of which holds a list of numbers that is only read. No program occurs here. The reference's data: memories,records,frames,events; how they lie; words for what its functions answer. No program occurs here. Maps from numbers that a call owns. No program occurs here. Evaluation by itself,3: what lies in memory: fields,objects,rows. No program occurs here. Evaluation by itself,4: what is held,by numbers; fields opened; cells read and written. No program occurs here. -/
import Derived.Test.YtidhehdanppcoaaGreatCaaa
import Derived.Laws.StructEq
import Derived.ChangeKeysEq
import Derived.RangeFuncFrom
import Derived.RangeFuncLeaves
import Derived.RangeFuncBound
import Derived.Maps.Keyed
set_option linter.all false
namespace Go.Proofs.YtidhehdanppcoaaGreat
section
open Go Go.RowKit
def aj3:V→Option (IntKind×Int×Bool)
 | .i k x =>some (k,x,false)
 | .l k x =>some (k,x,true)
 | _ =>none
theorem afq {ρ:Env} {v:V} {k:IntKind} {x:Int} {l:Bool} (h:aj3 v=some (k,x,l)):aau ρ v=.int k x:=by
 cases v<;>simp [aj3] at h<;>obtain ⟨rfl,rfl,_⟩:=h<;>rfl
def aro:IntKind→IntKind→Bool
 | .i64,.i64 =>true
 | .u64,.u64 =>true
 | .u8,.u8 =>true
 | .u16,.u16 =>true
 | .i32,.i32 =>true
 | _,_ =>false
theorem ag4 {k k':IntKind} (h:aro k k'=true):k=k':=by cases k<;>cases k'<;>first | rfl | cases h
def mkI (l:Bool) (k:IntKind) (x:Int):V:=match l with
 | true =>.l k x
 | false =>.i k x
theorem aed {ρ:Env} {l:Bool} {k:IntKind} {x:Int}:aau ρ (mkI l k x)=.int k x:=by cases l<;>rfl
def mkP (l:Bool) (P:Prop) (d:Decidable P):V:=match l with
 | true =>.t (@decide P d)
 | false =>.p P d
theorem amW {ρ:Env} {l:Bool} {P:Prop} {d:Decidable P}:aau ρ (mkP l P d)=.bool (@decide P d):=by cases l<;>rfl
def nzL:Int→Bool
 | .ofNat 0 =>false
 | _ =>true
def nnL:Int→Bool
 | .ofNat _ =>true
 | _ =>false
theorem aIb {b:Int} (h:nzL b=true):b≠0:=by
 intro e; subst e; cases h
theorem aps {b:Int} (h:nnL b=true):0≤b:=by
 cases b with
 | ofNat n =>exact Int.natCast_nonneg n
 | negSucc n =>cases h
def nzG (l:Bool) (b:Int):Option (List Gd):=match l with
 | true =>match nzL b with
  | true =>some []
  | false =>none
 | false =>some [⟨b≠0,inferInstance⟩]
theorem aDS {l:Bool} {b:Int} {gs:List Gd} (h:nzG l b=some gs) (hg:∀ g∈gs,g.P):b≠0:=by
 unfold nzG at h
 cases l with
 | true =>
  simp only at h
  split at h
  ·rename_i e; exact aIb e
  ·cases h
 | false =>cases h; exact hg _ (List.mem_singleton.2 rfl)
def nnG (l:Bool) (b:Int):Option (List Gd):=match l with
 | true =>match nnL b with
  | true =>some []
  | false =>none
 | false =>some [⟨0≤b,inferInstance⟩]
theorem aDT {l:Bool} {b:Int} {gs:List Gd} (h:nnG l b=some gs) (hg:∀ g∈gs,g.P):0≤b:=by
 unfold nnG at h
 cases l with
 | true =>
  simp only at h
  split at h
  ·rename_i e; exact aps e
  ·cases h
 | false =>cases h; exact hg _ (List.mem_singleton.2 rfl)
def biI (op:BinOp) (k:IntKind) (a b:Int) (l lb:Bool):Option (List Gd×V) :=
 match op with
 | .add =>some ([],mkI l k (k.wrap (a+b)))
 | .sub =>some ([],mkI l k (k.wrap (a-b)))
 | .mul =>some ([],mkI l k (k.wrap (a*b)))
 | .quo =>(nzG lb b).map fun g =>(g,mkI l k (k.wrap (a.tdiv b)))
 | .rem =>(nzG lb b).map fun g =>(g,mkI l k (a.tmod b))
 | .and =>some ([],mkI l k (k.wrap (BitVec.ofInt k.bits a &&& BitVec.ofInt k.bits b).toNat))
 | .or =>some ([],mkI l k (k.wrap (BitVec.ofInt k.bits a ||| BitVec.ofInt k.bits b).toNat))
 | .xor =>some ([],mkI l k (k.wrap (BitVec.ofInt k.bits a ^^^ BitVec.ofInt k.bits b).toNat))
 | .andNot =>some ([],mkI l k (k.wrap (BitVec.ofInt k.bits a &&& ~~~ BitVec.ofInt k.bits b).toNat))
 | .lss =>some ([],mkP l (a<b) inferInstance)
 | .leq =>some ([],mkP l (a≤b) inferInstance)
 | .gtr =>some ([],mkP l (b<a) inferInstance)
 | .geq =>some ([],mkP l (b≤a) inferInstance)
 | .eql =>some ([],mkP l (a=b) inferInstance)
 | .neq =>some ([],mkP l (a≠b) inferInstance)
 | _ =>none
def shI (op:BinOp) (k:IntKind) (a b:Int) (l lb:Bool):Option (List Gd×V) :=
 match op with
 | .shl =>(nnG lb b).map fun g =>(g,mkI l k (k.wrap (a*2 ^ min b.toNat k.bits)))
 | .shr =>(nnG lb b).map fun g =>(g,mkI l k (a.fdiv (2 ^ min b.toNat k.bits)))
 | _ =>none
def aKQ:BinOp→Bool
 | .shl =>true
 | .shr =>true
 | _ =>false
def asz:V→Option Bool
 | .p P d =>some (@decide P d)
 | .b x =>some x
 | .t x =>some x
 | _ =>none
theorem ajJ {ρ:Env} {v:V} {x:Bool} (h:asz v=some x):aau ρ v=.bool x:=by
 cases v<;>simp [asz] at h<;>subst h<;>rfl
def aI2 (P:Program) (T:TypeId):Bool:=match P.underlying T with
 | some .bool =>true
 | _ =>false
def ahD (P:Program) (T:TypeId):Option TypeId:=match P.underlying T with
 | some (.slice E) =>some E
 | _ =>none
theorem acb {P:Program} {T E:TypeId} (h:ahD P T=some E):P.underlying T=some (.slice E):=by
 unfold ahD at h; split at h
 ·cases h; assumption
 ·cases h
def aIu (P:Program) (T:TypeId):Option IntKind:=match P.underlying T with
 | some (.int k) =>some k
 | _ =>none
theorem aw2 {P:Program} {T:TypeId} {k:IntKind} (h:aIu P T=some k):P.underlying T=some (.int k):=by
 unfold aIu at h; split at h
 ·cases h; assumption
 ·cases h
def aJs (P:Program) (T:TypeId) (a b:V):Option Gd :=
 match P.underlying T with
 | some (.int _) =>match aj3 a with
  | some (k,n,_) =>match aj3 b with
   | some (k',m,_) =>match aro k k' with
    | true =>some ⟨n=m,inferInstance⟩
    | false =>none
   | none =>none
  | none =>none
 | some .bool =>match asz a with
  | some x =>match asz b with
   | some y =>some ⟨x=y,inferInstance⟩
   | none =>none
  | none =>none
 | _ =>none
def aGY (g h:Gd):Gd:=⟨g.P∧h.P,@instDecidableAnd _ _ g.d h.d⟩
def aJv (P:Program) (rec:TypeId→List V→List V→Option Gd) (xs ys:List V):List Field→Option Gd
 | [] =>some ⟨True,inferInstance⟩
 | f :: fs =>match decide (f.name = "_") with
  | true =>none
  | false =>match aJv P rec xs ys fs with
   | some h =>match P.underlying f.type with
    | some (.struct _) =>match P.info? f.type with
     | some _ =>match rec f.type ((xs.drop f.offset).take (P.cellsOf f.type)) ((ys.drop f.offset).take (P.cellsOf f.type)) with
      | some g =>some (aGY g h)
      | none =>none
     | none =>none
    | _ =>match xs[f.offset]? with
     | some a =>match ys[f.offset]? with
      | some b =>match aJs P f.type a b with
       | some g =>some (aGY g h)
       | none =>none
      | none =>none
     | none =>none
   | none =>none
def aIS (P:Program):Nat→TypeId→List V→List V→Option Gd
 | 0,_,_,_ =>none
 | d+1,T,xs,ys =>match P.underlying T with
  | some (.struct _) =>match P.stoodInHeld T with
   | true =>none
   | false =>aJv P (aIS P d) xs ys (P.fieldsOf T).toList
  | _ =>none
section
variable {P:Program} {ρ:Env}
theorem aGm {T:TypeId} {a b:V} {g:Gd} (h:aJs P T a b=some g) (d:Nat) (w:World):(Op.equalIn (d+1) T (aau ρ a) (aau ρ b)).run P w=.ok (@decide g.P g.d) w:=by
 unfold aJs at h
 split at h
 ·rename_i k0 hT
  split at h
  ·rename_i k n _ ha
   split at h
   ·rename_i k' m _ hb
    split at h
    ·rename_i hk
     cases h
     obtain rfl:=ag4 hk
     rw [afq ha,afq hb]
     have e:(n == m)=decide (n=m):=by by_cases hh:n=m<;>simp [hh]
     simp [run_equalIn_int w d T k k0 n m hT,e]
    ·cases h
   ·cases h
  ·cases h
 ·rename_i hT
  split at h
  ·rename_i x ha
   split at h
   ·rename_i y hb
    cases h
    rw [ajJ ha,ajJ hb]
    have e:(x == y)=decide (x=y):=by cases x<;>cases y<;>rfl
    simp [run_equalIn_bool' w d T x y hT,e]
   ·cases h
  ·cases h
 ·cases h
theorem at9 {l:List V} {i:Nat} {v:V} (h:l[i]?=some v):(aag ρ l).toArray[i]?=some (aau ρ v):=by
 rw [aaR]; simp [h]
theorem as4 (l:List V) (o k:Nat):List.take k (List.drop o (aag ρ l))=aag ρ ((l.drop o).take k):=by rw [aaR,aaR,List.map_take,List.map_drop]
theorem aAe {rec:TypeId→List V→List V→Option Gd} {D:Nat} (hD:0<D) (hr:∀ T xs ys g,rec T xs ys=some g→∀ w,(Op.equalIn D T (.agg (aag ρ xs).toArray) (.agg (aag ρ ys).toArray)).run P w=.ok (@decide g.P g.d) w) {xs ys:List V} :
  ∀ {fs:List Field} {g:Gd},aJv P rec xs ys fs=some g→∀ w,(Op.eqFields D (aag ρ xs).toArray (aag ρ ys).toArray fs).run P w=.ok (@decide g.P g.d) w
 | [],g,h,w =>by cases h; simp [Op.eqFields]
 | f::fs,g,h,w =>by
  obtain ⟨D,rfl⟩:∃ D',D=D'+1:=⟨D-1,by omega⟩
  have fin : ∀ {g0 g1 : Gd} {a b : Value},f.name ≠ "_" → (part f.type (aag ρ xs).toArray f.offset).run P w = .ok a w → (part f.type (aag ρ ys).toArray f.offset).run P w = .ok b w → (Op.equalIn (D + 1) f.type a b).run P w = .ok (@decide g0.P g0.d) w →
    (Op.eqFields (D+1) (aag ρ xs).toArray (aag ρ ys).toArray fs).run P w=.ok (@decide g1.P g1.d) w→(Op.eqFields (D+1) (aag ρ xs).toArray (aag ρ ys).toArray (f::fs)).run P w=.ok (@decide (aGY g0 g1).P (aGY g0 g1).d) w:=by
   intro g0 g1 a b hn h1 h2 h3 h4
   simp only [Op.eqFields]
   rw [if_pos hn]
   simp only [Sem.run_bind,h1,h2,h3,Result.andThen_ok]
   have:=g0.d
   have:=g1.d
   by_cases hp:g0.P
   ·simp [hp,h4,aGY]
   ·simp [hp,aGY]
  unfold aJv at h
  split at h
  ·cases h
  ·rename_i hn
   have hn' : f.name ≠ "_" := by simpa using hn
   split at h
   ·rename_i g1 h1
    have ih:=aAe hD hr h1 w
    split at h
    ·rename_i hu
     split at h
     ·rename_i i hi
      split at h
      ·rename_i g0 h0
       cases h
       have hp:∀ l:List V,(part f.type (aag ρ l).toArray f.offset).run P w=.ok (.agg (aag ρ ((l.drop f.offset).take (P.cellsOf f.type))).toArray) w:=fun l =>by
        simp [part,isAgg,run_underlying hu,run_sizeOf w hi,as4]
       exact fin hn' (hp xs) (hp ys) (hr _ _ _ _ h0 w) ih
      ·cases h
     ·cases h
    ·rename_i hu
     split at h
     ·rename_i a ha
      split at h
      ·rename_i b hb
       split at h
       ·rename_i g0 h0
        cases h
        have hk:P.plainKey f.type=true:=by
         unfold aJs at h0
         unfold Program.plainKey
         split at h0
         ·rename_i hT; rw [hT]
         ·rename_i hT; rw [hT]
         ·cases h0
        exact fin hn' (run_part_plain w hk (at9 ha)) (run_part_plain w hk (at9 hb)) (aGm h0 D w) ih
       ·cases h
      ·cases h
     ·cases h
   ·cases h
theorem avD:∀ {d:Nat} {T:TypeId} {xs ys:List V} {g:Gd},aIS P d T xs ys=some g→∀ (D:Nat),d<D→∀ w,(Op.equalIn D T (.agg (aag ρ xs).toArray) (.agg (aag ρ ys).toArray)).run P w=.ok (@decide g.P g.d) w
 | 0,_,_,_,_,h,_,_,_ =>by cases h
 | d+1,T,xs,ys,g,h,D,hD,w =>by
  obtain ⟨D,rfl⟩:∃ D',D=D'+1:=⟨D-1,by omega⟩
  unfold aIS at h
  split at h
  ·rename_i fs hu
   split at h
   ·cases h
   ·rename_i hs
    rw [run_equalIn_struct w D T _ _ (by unfold Program.fieldsOf; rw [hu]) hs]
    exact aAe (by omega) (fun T xs ys g h w =>avD h D (by omega) w) h w
  ·cases h
end
def biV (P:Program) (op:BinOp) (T:TypeId) (x y:V):Option (List Gd×V) :=
 match aj3 x with
 | some (k,a,l) =>match aj3 y with
  | some (k',b,l') =>match aKQ op with
   | true =>shI op k a b (l && l') l'
   | false =>match aro k k' with
    | true =>biI op k a b (l && l') l'
    | false =>none
  | none =>none
 | none =>match aI2 P T with
  | true =>match asz x with
   | some a =>match asz y with
    | some b =>match op with
     | .eql =>some ([],.p (a=b) inferInstance)
     | .neq =>some ([],.p (a≠b) inferInstance)
     | _ =>none
    | none =>none
   | none =>none
  | false =>match x with
   | .agg xs =>match y with
    | .agg ys =>match P.eqGuardType P.depth T with
     | true =>none
     | false =>match op with
      | .eql =>(aIS P 5 T xs ys).map fun g =>([],.p g.P g.d)
      | .neq =>(aIS P 5 T xs ys).map fun g =>([],.p (¬ g.P) (@instDecidableNot _ g.d))
      | _ =>none
    | _ =>none
   | _ =>none
def unV (op:UnOp) (x:V):Option V :=
 match op with
 | .not =>match x with
  | .p P d =>some (.p (¬ P) inferInstance)
  | .b x =>some (.b (!x))
  | .t x =>some (.t (!x))
  | _ =>none
 | .neg =>match aj3 x with
  | some (k,a,l) =>some (mkI l k (k.wrap (0-a)))
  | none =>none
 | .xor =>match aj3 x with
  | some (k,a,l) =>some (mkI l k (k.wrap (BitVec.ofInt k.bits (if k.signed then -1 else k.max) ^^^ BitVec.ofInt k.bits a).toNat))
  | none =>none
 | _ =>none
def aIs (L:Nat→Option Nat):V→Option V
 | .sl id =>match L id with
  | some n =>some (.i .i64 ((n:Nat):Int))
  | none =>none
 | .c (.slice none 0 0) =>some (.l .i64 0)
 | .vw _ _ m _ =>some (.l .i64 ((m:Nat):Int))
 | .vs _ _ k _ =>some (.i .i64 ((k.toNat:Nat):Int))
 | _ =>none
def buV (P:Program) (L:Nat→Option Nat) (R:aaZ) (bu:Builtin) (xs:List Operand) (ts:List TypeId):Option (List Gd×V) :=
 match bu with
 | .len =>match xs,ts with
  | [x],[T] =>match ahD P T with
   | some _ =>match evO R x with
    | some v =>(aIs L v).map fun v =>([],v)
    | none =>none
   | none =>none
  | _,_ =>none
 | .min =>match xs with
  | [x,y] =>match evO R x with
   | some a =>match evO R y with
    | some b =>match aj3 a with
     | some (k,n,l) =>match aj3 b with
      | some (_,m,l') =>some ([],mkI (l && l') k (if m<n then m else n))
      | none =>none
     | none =>none
    | none =>none
   | none =>none
  | _ =>none
 | .max =>match xs with
  | [x,y] =>match evO R x with
   | some a =>match evO R y with
    | some b =>match aj3 a with
     | some (k,n,l) =>match aj3 b with
      | some (_,m,l') =>some ([],mkI (l && l') k (if n<m then m else n))
      | none =>none
     | none =>none
    | none =>none
   | none =>none
  | _ =>none
 | _ =>none
def evP (P:Program) (L:Nat→Option Nat) (R:aaZ) (op:Op):Option (List Gd×V) :=
 match op with
 | .move x =>(evO R x).map fun v =>([],v)
 | .assign x =>(evO R x).map fun v =>([],v)
 | .nilCheck x =>match evO R x with
  | some (.ptr id o) =>some ([],.ptr id o)
  | some (.ifc t v) =>some ([],.ifc t v)
  | _ =>none
 | .pick c x y =>match evO R c with
  | some (.t b) =>(evO R (match b with | true =>x | false =>y)).map fun v =>([],v)
  | _ =>none
 | .binOp op T x y _ =>match evO R x with
  | some a =>match evO R y with
   | some b =>biV P op T a b
   | none =>none
  | none =>none
 | .unOp op _ x =>match evO R x with
  | some a =>(unV op a).map fun v =>([],v)
  | none =>none
 | .convert T T' x =>match evO R x with
  | some a =>match aj3 a with
   | some (_,n,l) =>match aIu P T with
    | some _ =>match aIu P T' with
     | some k' =>some ([],mkI l k' (k'.wrap n))
     | none =>none
    | none =>none
   | none =>none
  | none =>none
 | .extract x i =>match evO R x with
  | some (.tup l) =>(l[i]?).map fun v =>([],v)
  | _ =>none
 | .fieldAddr T x f =>match evO R x with
  | some (.ptr id o) =>(asf P T f).map fun k =>([],.ptr id (o+k))
  | _ =>none
 | .call c =>match c.callee with
  | .builtin b =>buV P L R b c.args.toList c.argTypes.toList
  | _ =>none
 | .makeFunc (.func f) first captured =>match first.isEmpty with
  | true =>(aGd R captured.toList).map fun l =>([],.fn f l)
  | false =>none
 | _ =>none
section
variable {P:Program} {n:Nat} {ρ:Env} {R:aaZ}
theorem ab9 {x:Operand} {v:V} {k:IntKind} {a:Int} {l:Bool} (h:evO R x=some v) (hv:aj3 v=some (k,a,l)):EvalR (dR ρ R) x (.int k a):=afq (ρ:=ρ) hv▸aaH h
theorem aov {x:Operand} {v:V} {b:Bool} (h:evO R x=some v) (hv:asz v=some b):EvalR (dR ρ R) x (.bool b):=ajJ (ρ:=ρ) hv▸aaH h
theorem aI4 {d:Option Tmp} {ty:TypeId} {ps:String} {af:Array Edge} {g:Option (Nat×Bool)} {T T':TypeId} {op:BinOp} {x y:Operand} {k:IntKind} {a b:Int} {l lb:Bool} {gs:List Gd} {v:V}
  (h:biI op k a b l lb=some (gs,v)) (hg:∀ g∈gs,g.P) (hx:EvalR (dR ρ R) x (.int k a)) (hy:EvalR (dR ρ R) y (.int k b)):OP P n ⟨d,.binOp op T x y T',ty,ps,af,g⟩ (dR ρ R) (aau ρ v):=by
 cases op<;>simp only [biI,Option.some.injEq,Prod.mk.injEq,Option.map_eq_some_iff,reduceCtorEq] at h
 case add =>obtain ⟨rfl,rfl⟩:=h; rw [aed]; exact aIa hx hy rfl
 case sub =>obtain ⟨rfl,rfl⟩:=h; rw [aed]; exact aHR hx hy rfl
 case mul =>obtain ⟨rfl,rfl⟩:=h; rw [aed]; exact aHZ hx hy rfl
 case quo =>obtain ⟨_,h1,rfl,rfl⟩:=h; rw [aed]; exact aHV hx hy (aDS h1 hg) rfl
 case rem =>obtain ⟨_,h1,rfl,rfl⟩:=h; rw [aed]; exact aHU hx hy (aDS h1 hg) rfl
 case and =>obtain ⟨rfl,rfl⟩:=h; rw [aed]; exact aH9 hx hy rfl
 case or =>obtain ⟨rfl,rfl⟩:=h; rw [aed]; exact aJS hx hy rfl
 case xor =>obtain ⟨rfl,rfl⟩:=h; rw [aed]; exact aHQ hx hy rfl
 case andNot =>obtain ⟨rfl,rfl⟩:=h; rw [aed]; exact azv hx hy rfl
 case lss =>obtain ⟨rfl,rfl⟩:=h; rw [amW]; exact aH2 hx hy
 case leq =>obtain ⟨rfl,rfl⟩:=h; rw [amW]; exact aH3 hx hy
 case gtr =>obtain ⟨rfl,rfl⟩:=h; rw [amW]; exact aH4 hx hy
 case geq =>obtain ⟨rfl,rfl⟩:=h; rw [amW]; exact aH5 hx hy
 case eql =>obtain ⟨rfl,rfl⟩:=h; rw [amW]; exact aH6 hx hy
 case neq =>obtain ⟨rfl,rfl⟩:=h; rw [amW]; exact aHX hx hy
theorem aI3 {d:Option Tmp} {ty:TypeId} {ps:String} {af:Array Edge} {g:Option (Nat×Bool)} {T T':TypeId} {op:BinOp} {x y:Operand} {u w v:V} {gs:List Gd}
  (h:biV P op T u w=some (gs,v)) (hg:∀ g∈gs,g.P) (hx:evO R x=some u) (hy:evO R y=some w):OP P n ⟨d,.binOp op T x y T',ty,ps,af,g⟩ (dR ρ R) (aau ρ v):=by
 unfold biV at h
 split at h
 ·rename_i k a l hu
  split at h
  ·rename_i k' b l' hw
   split at h
   ·cases op<;>simp only [shI,Option.map_eq_some_iff,Prod.mk.injEq,reduceCtorEq] at h
    case shl =>obtain ⟨_,h1,rfl,rfl⟩:=h; rw [aed]; exact aHT (ab9 hx hu) (ab9 hy hw) (aDT h1 hg) rfl
    case shr =>obtain ⟨_,h1,rfl,rfl⟩:=h; rw [aed]; exact aHS (ab9 hx hu) (ab9 hy hw) (aDT h1 hg) rfl
   ·split at h
    ·rename_i hk
     obtain rfl:=ag4 hk
     exact aI4 h hg (ab9 hx hu) (ab9 hy hw)
    ·cases h
  ·cases h
 ·split at h
  ·rename_i hT
   have hT':P.underlying T=some .bool:=by
    unfold aI2 at hT; split at hT
    ·assumption
    ·cases hT
   split at h
   ·rename_i a ha
    split at h
    ·rename_i b hb
     split at h
     ·cases h; exact aH7 hT' (aov hx ha) (aov hy hb)
     ·cases h; exact aFw hT' (aov hx ha) (aov hy hb)
     ·cases h
    ·cases h
   ·cases h
  ·split at h
   ·rename_i xs
    split at h
    ·rename_i ys
     split at h
     ·cases h
     ·rename_i hm
      split at h
      ·simp only [Option.map_eq_some_iff,Prod.mk.injEq] at h
       obtain ⟨g0,h0,rfl,rfl⟩:=h
       intro a w s
       simp only [execOp,(aaH (ρ:=ρ) hx).eval s,(aaH (ρ:=ρ) hy).eval s,aau]
       rw [aaa (aaa (run_eqGuard_agg _ _ _ _ _ _ _ hm) |>.trans (by rw [run_eql_struct,avD h0 10000 (by omega) w]; rfl))]
       rfl
      ·simp only [Option.map_eq_some_iff,Prod.mk.injEq] at h
       obtain ⟨g0,h0,rfl,rfl⟩:=h
       intro a w s
       simp only [execOp,(aaH (ρ:=ρ) hx).eval s,(aaH (ρ:=ρ) hy).eval s,aau]
       rw [aaa (aaa (run_eqGuard_agg _ _ _ _ _ _ _ hm) |>.trans (by rw [run_neq_struct,avD h0 10000 (by omega) w]; rfl))]
       have:=g0.d
       by_cases hp:g0.P<;>simp [hp]
      ·cases h
    ·cases h
   ·cases h
theorem aHa {d:Option Tmp} {ty:TypeId} {ps:String} {af:Array Edge} {g:Option (Nat×Bool)} {T:TypeId} {op:UnOp} {x:Operand} {u v:V} (h:unV op u=some v) (hx:evO R x=some u):OP P n ⟨d,.unOp op T x,ty,ps,af,g⟩ (dR ρ R) (aau ρ v):=by
 unfold unV at h
 split at h
 ·split at h
  ·cases h; exact aHW (aaH hx)
  ·cases h; exact azt (aaH hx)
  ·cases h; exact azt (aaH hx)
  ·cases h
 ·split at h
  ·rename_i hi; cases h; rw [aed]; exact aHY (ab9 hx hi) rfl
  ·cases h
 ·split at h
  ·rename_i hi; cases h; rw [aed]; exact aH8 (ab9 hx hi) rfl
  ·cases h
 ·cases h
theorem axZ {ρ:Env} {l:List V} {i:Nat} {v:V} (h:l[i]?=some v):(aag ρ l)[i]?=some (aau ρ v):=by rw [aaR,List.getElem?_map,h]; rfl
theorem aI1 {d:Option Tmp} {ty:TypeId} {ps:String} {af:Array Edge} {g:Option (Nat×Bool)} {bu:Builtin} {xs:Array Operand} {ts:Array TypeId} {gs:List Gd} {v:V} {L:Nat→Option Nat} (hL:∀ id m,L id=some m→(ρ.s id).n=m) (h:buV P L R bu xs.toList ts.toList=some (gs,v)) (hg:∀ g∈gs,g.P) :
  OP P n ⟨d,.call ⟨.builtin bu,xs,ts⟩,ty,ps,af,g⟩ (dR ρ R) (aau ρ v):=by
 unfold buV at h
 split at h
 ·split at h
  ·rename_i x T hxs hts
   obtain rfl:xs=#[x]:=by apply Array.ext'; simpa using hxs
   obtain rfl:ts=#[T]:=by apply Array.ext'; simpa using hts
   split at h
   ·rename_i hT
    split at h
    ·rename_i u hx
     simp only [Option.map_eq_some_iff,Prod.mk.injEq] at h; obtain ⟨w,hw,rfl,rfl⟩:=h
     unfold aIs at hw
     split at hw
     ·rename_i id
      cases hm:L id with
      | none =>rw [hm] at hw; cases hw
      | some m =>
      rw [hm] at hw
      cases hw
      have:=atJ (P:=P) (n:=n) (d:=d) (ty:=ty) (ps:=ps) (af:=af) (g:=g) (aaH (ρ:=ρ) hx) (acb hT)
      rw [hL _ _ hm] at this
      exact this
     ·cases hw; exact atJ (aaH hx) (acb hT)
     ·cases hw; exact atJ (aaH hx) (acb hT)
     ·cases hw; exact atJ (aaH hx) (acb hT)
     ·cases hw
    ·cases h
   ·cases h
  ·cases h
 ·split at h
  ·rename_i x y hxs
   obtain rfl:xs=#[x,y]:=by apply Array.ext'; simpa using hxs
   split at h
   ·rename_i hx
    split at h
    ·rename_i hy
     split at h
     ·rename_i hi
      split at h
      ·rename_i hj
       cases h; rw [aed]; exact aH0 (ab9 hx hi) (ab9 hy hj)
      ·cases h
     ·cases h
    ·cases h
   ·cases h
  ·cases h
 ·split at h
  ·rename_i x y hxs
   obtain rfl:xs=#[x,y]:=by apply Array.ext'; simpa using hxs
   split at h
   ·rename_i hx
    split at h
    ·rename_i hy
     split at h
     ·rename_i hi
      split at h
      ·rename_i hj
       cases h; rw [aed]; exact aH1 (ab9 hx hi) (ab9 hy hj)
      ·cases h
     ·cases h
    ·cases h
   ·cases h
  ·cases h
 ·cases h
theorem aIP {L:Nat→Option Nat} {o:Oper} {gs:List Gd} {v:V} (hL:∀ id m,L id=some m→(ρ.s id).n=m) (h:evP P L R o.op=some (gs,v)) (hg:∀ g∈gs,g.P):OP P n o (dR ρ R) (aau ρ v):=by
 obtain ⟨d,op,ty,ps,af,g⟩:=o
 simp only at h
 unfold evP at h
 split at h
 ·simp only [Option.map_eq_some_iff,Prod.mk.injEq] at h; obtain ⟨u,hu,rfl,rfl⟩:=h; exact aFx (aaH hu)
 ·simp only [Option.map_eq_some_iff,Prod.mk.injEq] at h; obtain ⟨u,hu,rfl,rfl⟩:=h; exact azu (aaH hu)
 ·split at h
  ·rename_i hx; cases h; exact avk (aaH hx)
  ·rename_i hx; cases h; exact atI (by simpa only [aau] using aaH hx)
  ·cases h
 ·split at h
  ·rename_i b hx
   simp only [Option.map_eq_some_iff,Prod.mk.injEq] at h; obtain ⟨u,hu,rfl,rfl⟩:=h
   refine aFv (b:=b) (aaH hx) ?_
   cases b<;>exact aaH hu
  ·cases h
 ·split at h
  ·rename_i hx
   split at h
   ·rename_i hy; exact aI3 h hg hx hy
   ·cases h
  ·cases h
 ·split at h
  ·rename_i hx
   simp only [Option.map_eq_some_iff,Prod.mk.injEq] at h; obtain ⟨u,hu,rfl,rfl⟩:=h
   exact aHa hu hx
  ·cases h
 ·split at h
  ·rename_i hx
   split at h
   ·rename_i hi
    split at h
    ·rename_i hT
     split at h
     ·rename_i hT'
      cases h; rw [aed]; exact aFy (ab9 hx hi) (aw2 hT) (aw2 hT') rfl
     ·cases h
    ·cases h
   ·cases h
  ·cases h
 ·split at h
  ·rename_i hx
   simp only [Option.map_eq_some_iff,Prod.mk.injEq] at h; obtain ⟨u,hu,rfl,rfl⟩:=h
   exact axV (aaH hx) (by simpa using axZ hu)
  ·cases h
 ·split at h
  ·rename_i hx
   simp only [Option.map_eq_some_iff,Prod.mk.injEq] at h; obtain ⟨u,hu,rfl,rfl⟩:=h
   exact aCn (aaH hx) hu (Nat.add_assoc ..)
  ·cases h
 ·split at h
  ·rename_i c _ _ _
   obtain ⟨callee,xs,ts⟩:=c
   simp only at *
   subst callee
   exact aI1 hL h hg
  ·cases h
 ·split at h
  ·rename_i f first captured _ he
   simp only [Option.map_eq_some_iff,Prod.mk.injEq] at h; obtain ⟨u,hu,rfl,rfl⟩:=h
   have:first=#[]:=by simpa using he
   subst this
   exact avl (xs:=captured.toList) (apT hu)
  ·cases h
 ·cases h
end
def ayd (l:Nat) (o:Obj):aad:=fun h =>h l 0=some (.obj o)
section
variable {B:Nat} {w:World} {L M:List aad} {l:Nat} {o o':Obj}
theorem Sat.obj (s:Sat B w (ayd l o::L)):B≤l∧w.heap[l]?=some o∧Obj.plain o=true:=by
 obtain ⟨h,H,k1,k2,a,e,hA,hL⟩:=s
 have:=H l 0 (.obj o) (by rw [e]; unfold ac7; rw [show k1 l 0=_ from hA])
 exact ⟨this.1.resolve_right id,this.2.1,this.2.2.1⟩
theorem amh {b j:Nat} {v:Value} (h:w.heap[b]?=some o) (hp:Obj.plain o=true):w.cell? ⟨b,j,none⟩≠some v:=by
 unfold World.cell?; rw [h]; cases o<;>simp_all [Obj.plain]
theorem Sat.putObj (s:Sat B w (ayd l o::L)) (hp:Obj.plain o'=true):Sat B (w.putObj l o') (ayd l o'::L):=by
 have s0:=s.obj
 obtain ⟨h,H,k1,k2,a,e,hA,hL⟩:=s
 have hA':k1 l 0=some (.obj o):=hA
 refine ⟨ac7 (fun b j =>if b=l∧j=0 then some (.obj o') else k1 b j) k2,?_,_,k2,?_,rfl,?_,hL⟩
 ·intro b j x hx
  by_cases hc:b=l∧j=0
  ·obtain ⟨rfl,rfl⟩:=hc
   unfold ac7 at hx
   simp only [and_self,if_true] at hx
   obtain rfl:=Option.some.inj hx
   exact ⟨.inl s0.1,World.putObj_heap_same (Array.getElem?_eq_some_iff.1 s0.2.1).1,hp,rfl⟩
  ·have hx':h b j=some x:=by
    rw [e]; unfold ac7 at hx ⊢
    simp only [if_neg hc] at hx
    exact hx
   have h2:=H b j x hx'
   refine ⟨h2.1,?_⟩
   by_cases hb:b=l
   ·subst hb
    cases x with
    | cell v =>exact absurd h2.2.1 (amh s0.2.1 s0.2.2)
    | obj y =>exact absurd ⟨rfl,h2.2.2.2⟩ hc
    | look v =>exact absurd h2.2 (amh s0.2.1 s0.2.2)
   ·exact h2.2.same (World.putObj_heap_other hb)
 ·intro b j
  by_cases hc:b=l∧j=0
  ·obtain ⟨rfl,rfl⟩:=hc
   rcases a b 0 with h2 | h2 | ⟨v,h2,_⟩
   ·rw [hA'] at h2; cases h2
   ·exact .inr (.inl h2)
   ·rw [hA'] at h2; cases h2
  ·simp only [if_neg hc]; exact a b j
 ·show (if l=l∧0=0 then some (Item.obj o') else k1 l 0)=some (.obj o')
  simp
theorem Sat.newObj (s:Sat B w L) (hB:B≤w.heap.size) (hp:Obj.plain o=true):Sat B (w.alloc o) (ayd w.heap.size o::L):=by
 obtain ⟨h,H,hL⟩:=s
 have hfar:∀ j,h w.heap.size j=none:=fun j =>by
  cases e:h w.heap.size j with
  | none =>rfl
  | some x =>exact absurd (H _ _ _ e).2.lt (by omega)
 refine ⟨ac7 (fun b j =>if b=w.heap.size∧j=0 then some (.obj o) else none) h,?_,_,h,?_,rfl,?_,hL⟩
 ·intro b j x hx
  unfold ac7 at hx
  by_cases hc:b=w.heap.size∧j=0
  ·obtain ⟨rfl,rfl⟩:=hc
   simp only [and_self,if_true] at hx
   obtain rfl:=Option.some.inj hx
   exact ⟨.inl hB,heap_alloc_new w _,hp,rfl⟩
  ·simp only [if_neg hc] at hx
   have h2:=H b j x hx
   exact ⟨h2.1,h2.2.same (Below.heap_alloc w _ _ h2.2.lt)⟩
 ·intro b j
  by_cases hc:b=w.heap.size∧j=0
  ·obtain ⟨rfl,rfl⟩:=hc; exact .inr (.inl (hfar _))
  ·left; simp [hc]
 ·show (if w.heap.size=w.heap.size∧0=0 then some (Item.obj o) else none)=some (.obj o)
  simp
end
section
variable {P:Program} {Q:Exit→Act→World→Prop} {B:Nat} {W:World} {L M:List aad}
 {ty:TypeId} {ps:String} {af:Array Edge} {g:Option (Nat×Bool)}
theorem Cls.perm {w:World} (h:Cls B W L w) (p:L.Perm M):Cls B W M w:=⟨h.1,h.2.1,h.2.2.perm p⟩
theorem Cls.putObj {w:World} {l:Nat} {o o':Obj} (h:Cls B W (ayd l o::L) w) (hp:Obj.plain o'=true):Cls B W (ayd l o'::L) (w.putObj l o') :=
 ⟨h.1.grown (grownBy_putObj' w l o') h.2.1 (fun k e =>by cases e; exact h.2.2.obj.1),by simpa using h.2.1,h.2.2.putObj hp⟩
theorem Cls.newObj {w:World} {o:Obj} (h:Cls B W L w) (hp:Obj.plain o=true):Cls B W (ayd w.heap.size o::L) (w.alloc o) :=
 ⟨h.1.alloc h.2.1 o,by rw [World.size_alloc]; have:=h.2.1; omega,h.2.2.newObj h.2.1 hp⟩
section
variable {o:Oper} {ops:Array Oper} {n:Nat} {R R':ac4} {v:Value} {rest:List Oper}
end
end
def aJh (n:Nat) (w u:World):Prop:=∀ b o v,n≤b→w.cell? ⟨b,o,none⟩=some v→u.cell? ⟨b,o,none⟩=some v
theorem aJh.refl (n:Nat) (w:World):aJh n w w:=fun _ _ _ _ h =>h
def aEf (w:World) (h:Hp):Prop:=∀ b o x,h b o=some x→afH w b o x
def aJ4 (Φ:World→Prop):aad:=fun h =>∀ w,aEf w h→Φ w
section
variable {P:Program} {n B:Nat} {W:World} {R R':ac4} {L L' M:List aad} {v u:Value} {x y z:Operand} {w w':World} {Φ:World→Prop}
 {d:Option Tmp} {ty:TypeId} {ps:String} {af:Array Edge} {g:Option (Nat×Bool)} {T T':TypeId}
theorem Sat.held (s:Sat B w (aJ4 Φ::L)):Φ w:=by
 obtain ⟨h,H,k1,k2,a,e,hA,hL⟩:=s
 exact hA w fun b o x hx =>(H b o x (by rw [e]; unfold ac7; rw [hx])).2
end
theorem aqQ {u:World} {b o:Nat} {v:Value} (h:u.cell? ⟨b,o,none⟩=some v):b<u.heap.size:=by
 rcases Nat.lt_or_ge b u.heap.size with h1 | h1
 ·exact h1
 ·have e:=Array.getElem?_eq_none h1
  unfold World.cell? at h; rw [e] at h; cases h
def SE (L L':List aad):Prop:=∀ B w,Sat B w L→Sat B w L'
def ae2 (Φ:World→Prop):aad:=fun h =>∃ k:Hp,(∀ b o x,k b o=some x→(∃ v,x=.look v)∧h b o=some x)∧∀ w,aEf w k→Φ w
section
variable {r:Option Nat} {P:Program} {ops:Array Oper} {Q:Exit→Act→World→Prop} {n B:Nat} {W:World} {R R':ac4} {L L' L'' M:List aad} {Φ Ψ:World→Prop} {v:Value} {x y z:Operand}
 {d:Option Tmp} {ty:TypeId} {ps:String} {af:Array Edge} {g:Option (Nat×Bool)} {T T':TypeId}
theorem SE.of (e:Ent L L'):SE L L':=fun _ _ s =>s.imp e
theorem SE.trans (h:SE L L') (k:SE L' L''):SE L L'':=fun B w s =>k B w (h B w s)
def exL {X:Type} (N:X→List aad):aad:=fun h =>∃ x,abY (N x) h
theorem ag3 {X:Type} {N:X→List aad} {w:World} (s:Sat B w (exL N::L)):∃ x,Sat B w (N x++L):=by
 obtain ⟨h,H,k1,k2,a,e,⟨x,hA⟩,hL⟩:=s
 exact ⟨x,h,H,aal.2 ⟨k1,k2,a,e,hA,hL⟩⟩
theorem alL:Ent (ae2 Φ::L) (ae2 Φ::ae2 Φ::L):=fun h s =>by
 obtain ⟨k1,k2,a,e,⟨k,hk,hΦ⟩,hL⟩:=s
 refine ⟨k,h,fun b o =>?_,?_,⟨k,fun b o x hx =>⟨(hk b o x hx).1,hx⟩,hΦ⟩,⟨k1,k2,a,e,⟨k,hk,hΦ⟩,hL⟩⟩
 ·cases hkb:k b o with
  | none =>exact .inl rfl
  | some x =>
   obtain ⟨⟨v,rfl⟩,h2⟩:=hk b o x hkb
   refine .inr (.inr ⟨v,rfl,?_⟩)
   rw [e]; unfold ac7; rw [h2]
 ·funext b o
  unfold ac7
  cases hkb:k b o with
  | none =>rfl
  | some x =>
   obtain ⟨⟨v,rfl⟩,h2⟩:=hk b o x hkb
   rw [e]; unfold ac7; rw [h2]
theorem adT (f:∀ u,Φ u→Ψ u):∀ h,ae2 Φ h→ae2 Ψ h:=fun _ ⟨k,hk,hΦ⟩ =>⟨k,hk,fun w hw =>f w (hΦ w hw)⟩
theorem alK {w:World} (s:Sat B w L) (h:ae2 Φ∈L):Φ w:=by
 obtain ⟨l',p⟩:=Pick.of_mem h
 obtain ⟨k,H,k1,k2,a,e,⟨k',hk,hΦ⟩,hL⟩:=s.perm p.perm
 exact hΦ w fun b o x hx =>(H b o x (by rw [e]; unfold ac7; rw [(hk b o x hx).2])).2
theorem azJ {h k:Hp} (a:apart h k) (h1:ae2 Φ h) (h2:ae2 Ψ k):ae2 (fun u =>Φ u∧Ψ u) (ac7 h k):=by
 obtain ⟨k1,q1,p1⟩:=h1
 obtain ⟨k2,q2,p2⟩:=h2
 refine ⟨ac7 k1 k2,fun b o x hx =>?_,fun w hw =>⟨p1 w fun b o x hx =>hw b o x (by unfold ac7; rw [hx]),p2 w fun b o x hx =>hw b o x ?_⟩⟩
 ·unfold ac7 at hx ⊢
  cases e1:k1 b o with
  | some y =>
   rw [e1] at hx; obtain rfl:=Option.some.inj hx
   obtain ⟨g1,g2⟩:=q1 b o y e1
   exact ⟨g1,by rw [g2]⟩
  | none =>
   rw [e1] at hx
   obtain ⟨g1,g2⟩:=q2 b o x hx
   refine ⟨g1,?_⟩
   rcases a b o with e | e | ⟨v,e3,e4⟩
   ·rw [e]; exact g2
   ·rw [e] at g2; cases g2
   ·rw [e3]; rw [e4] at g2; exact g2
 ·unfold ac7
  cases e1:k1 b o with
  | none =>exact hx
  | some y =>
   obtain ⟨⟨v,rfl⟩,g2⟩:=q1 b o y e1
   obtain ⟨⟨u,rfl⟩,g4⟩:=q2 b o x hx
   rcases a b o with e | e | ⟨v',e3,e4⟩
   ·rw [e] at g2; cases g2
   ·rw [e] at g4; cases g4
   ·rw [e3] at g2; rw [e4] at g4
    injection g2 with g2; injection g2 with g2
    injection g4 with g4; injection g4 with g4
    rw [← g2,← g4]
theorem awX:Ent (ae2 Φ::ae2 Ψ::L) (ae2 (fun u =>Φ u∧Ψ u)::L):=fun h s =>by
 obtain ⟨k1,k2,a,e,h1,k3,k4,a',e',h2,hL⟩:=s
 subst e'
 have a1:=(aa4 a').1 (aar a)
 exact ⟨ac7 k1 k3,k4,(aa4 (aar a1.1)).2 ⟨aar a1.2,a'⟩,by rw [e,adc],azJ (aar a1.1) h1 h2,hL⟩
theorem apB:Ent L (ae2 (fun _ =>True)::L):=fun h s =>⟨fun _ _ =>none,h,fun _ _ =>.inl rfl,by funext x y; rfl,⟨fun _ _ =>none,(fun _ _ _ (e:none=some _) =>by cases e),fun _ _ =>trivial⟩,s⟩
theorem avq {b o:Nat} {vs:List Value}:SE (pts b o vs::L) (ae2 (fun u =>∀ i v,vs[i]?=some v→u.cell? ⟨b,o+i,none⟩=some v)::L):=fun B w s =>by
 obtain ⟨h,H,k1,k2,a,e,hA,hL⟩:=s
 let f:Option Item→Option Item:=fun x =>match x with | some (.cell v) =>some (.look v) | y =>y
 have hin:∀ i v,vs[i]?=some v→k1 b (o+i)=some (.cell v):=hA
 refine ⟨ac7 (fun b o =>f (k1 b o)) k2,?_,_,k2,?_,rfl,⟨fun b' o' =>if b'=b∧o≤o' then (match vs[o'-o]? with | some v =>some (.look v) | none =>none) else none,?_,?_⟩,hL⟩
 ·intro b' o' x hx
  unfold ac7 at hx
  simp only [] at hx
  cases e1:k1 b' o' with
  | none =>
   rw [e1] at hx
   exact H b' o' x (by rw [e]; unfold ac7; rw [e1]; exact hx)
  | some y =>
   have h1:=H b' o' y (by rw [e]; unfold ac7; rw [e1])
   rw [e1] at hx
   cases y with
   | cell v =>obtain rfl:=Option.some.inj hx; exact ⟨.inr trivial,h1.2.1⟩
   | obj v =>obtain rfl:=Option.some.inj hx; exact h1
   | look v =>obtain rfl:=Option.some.inj hx; exact h1
 ·intro b' o'
  rcases a b' o' with e1 | e1 | ⟨v,e1,e2⟩
  ·left; simp only [e1]; rfl
  ·exact .inr (.inl e1)
  ·right; right; exact ⟨v,by simp only [e1]; rfl,e2⟩
 ·intro b' o' x hx
  simp only [] at hx
  by_cases hc:b'=b∧o≤o'
  ·rw [if_pos hc] at hx
   obtain ⟨rfl,hle⟩:=hc
   cases hv:vs[o'-o]? with
   | none =>rw [hv] at hx; cases hx
   | some v =>
    rw [hv] at hx
    obtain rfl:=Option.some.inj hx
    have:=hin _ _ hv
    rw [Nat.add_sub_cancel' hle] at this
    exact ⟨⟨v,rfl⟩,by simp only [this]; rfl⟩
  ·rw [if_neg hc] at hx; cases hx
 ·intro u hu i v hi
  have:=hu b (o+i) (.look v) (by simp [hi])
  exact this
def roS {α:Type} (enc:α→List Value) (sz:Nat) (A:Option Addr) (c:Nat) (xs:List α):aad:=ae2 fun u =>Sl enc sz u u.heap.size A xs∧xs.length≤c
section
variable {α:Type} {enc:α→List Value} {sz:Nat} {A:Option Addr} {c:Nat} {xs:List α}
theorem axa {α:Type} {enc:α→List Value} {sz:Nat} (henc:∀ x,(enc x).length=sz):∀ (xs:List α) (i:Nat) (x:α),xs[i]?=some x→∀ (j:Nat) y,(enc x)[j]?=some y→(xs.flatMap enc)[i*sz+j]?=some y
 | [],i,x,h,_,_,_ =>by cases h
 | z::xs,0,x,h,j,y,hj =>by
  simp at h; subst h
  rw [List.flatMap_cons,Nat.zero_mul,Nat.zero_add,List.getElem?_append_left (List.getElem?_eq_some_iff.1 hj).1]; exact hj
 | z::xs,i+1,x,h,j,y,hj =>by
  rw [List.flatMap_cons,List.getElem?_append_right (by rw [henc,Nat.add_mul]; omega)]
  have:=axa henc xs i x (by simpa using h) j y hj
  rw [henc,← this]; congr 1; rw [Nat.add_mul]; omega
theorem aDI {L:List aad} {A:Option Addr} {c:Nat}:Ent L (roS enc sz A c ([]:List α)::L):=apB.trans (Ent.cons (adT fun _ _ =>⟨Sl.nil,Nat.zero_le _⟩) Ent.refl)
theorem ati (hsz:0<sz) (henc:∀ x,(enc x).length=sz) {m:Nat} (hm:xs.length=m):SE (ae5 A m c sz (xs.flatMap enc)::L) (roS enc sz A c xs::L):=fun B w s =>by
 subst hm
 obtain ⟨h1,h2,h3,h4⟩:=afo s (List.mem_cons_self ..)
 cases xs with
 | nil =>exact aDI.sat s.drop
 | cons x xs =>
  obtain ⟨h,H,k1,k2,a,e,⟨r1,r2,r3,r4⟩,hL⟩:=s
  rcases r4 with ⟨_,r4⟩ | ⟨b,o,spare,rfl,rs,rp⟩
  ·simp at r2; omega
  ·have s':Sat B w (pts b o ((x::xs).flatMap enc)::L):=⟨h,H,k1,k2,a,e,(amI rp).1,hL⟩
   have s2:=avq B w s'
   have hlen:(x::xs).length≤9223372036854775807:=by unfold maxLen at r3; omega
   refine s2.imp fun h =>aaL (adT fun u hu =>⟨⟨hlen,fun _ =>⟨b,o,rfl,?_,?_⟩⟩,r2⟩) 
   ·cases hx:enc x with
    | nil =>have:=henc x; rw [hx] at this; simp at this; omega
    | cons y ys =>exact aqQ (hu 0 y (by rw [List.flatMap_cons,hx]; rfl))
   ·intro i z hz j v hj
    have:=hu _ _ (axa henc (x::xs) i z hz j v hj)
    rw [Nat.add_assoc]; exact this
theorem auU {w:World} (s:Sat B w L) (h:roS enc sz A c xs∈L):Sl enc sz w w.heap.size A xs∧xs.length≤c:=alK s h
theorem ayT:Ent (roS enc sz A c xs::L) (roS enc sz A c xs::roS enc sz A c xs::L):=alL
end
end
theorem aB4 {b o:Nat} {xs ys:List Value} {h k:Hp} (p1:pts b o xs h) (p2:pts b (o+xs.length) ys k) (a:apart h k):pts b o (xs++ys) (ac7 h k):=fun i v hi =>by
 unfold ac7
 rcases Nat.lt_or_ge i xs.length with h1 | h1
 ·rw [List.getElem?_append_left h1] at hi
  rw [p1 i v hi]
 ·rw [List.getElem?_append_right h1] at hi
  have:=p2 _ v hi
  rw [Nat.add_assoc,Nat.add_sub_cancel' h1] at this
  rcases a b (o+i) with e | e | ⟨u,_,e⟩
  ·rw [e]; exact this
  ·rw [e] at this; cases this
  ·rw [e] at this; cases this
theorem ay1 {b o:Nat} {xs ys:List Value} {h:Hp} (p:pts b o (xs++ys) h):∃ h1 h2,apart h1 h2∧h=ac7 h1 h2∧pts b o xs h1∧pts b (o+xs.length) ys h2:=by
 have p2:=amI p
 refine ⟨fun b' o' =>if b'=b∧o'<o+xs.length then h b' o' else none,fun b' o' =>if b'=b∧o'<o+xs.length then none else h b' o',fun b' o' =>?_,?_,fun i v hi =>?_,fun i v hi =>?_⟩
 ·by_cases hc:b'=b∧o'<o+xs.length
  ·simp only [if_pos hc]; exact .inr (.inl rfl)
  ·simp only [if_neg hc]; exact .inl rfl
 ·funext b' o'
  unfold ac7
  by_cases hc:b'=b∧o'<o+xs.length
  ·simp only [if_pos hc]; cases h b' o'<;>rfl
  ·simp only [if_neg hc]
 ·have hlt:=(List.getElem?_eq_some_iff.1 hi).1
  simp only [true_and]
  rw [if_pos (by omega)]
  exact p2.1 i v hi
 ·have:¬ (b=b∧o+xs.length+i<o+xs.length):=by omega
  show (if b=b∧o+xs.length+i<o+xs.length then none else h b (o+xs.length+i))=_
  rw [if_neg this]
  exact p2.2 i v hi
theorem amG {b o:Nat} {xs ys:List Value} {L:List aad}:Ent (pts b o (xs++ys)::L) (pts b o xs::pts b (o+xs.length) ys::L):=fun h s =>by
 obtain ⟨k1,k2,a,e,hA,hL⟩:=s
 obtain ⟨h1,h2,a',e',p1,p2⟩:=ay1 hA
 subst e'
 have a2:=(aa4 a').1 a
 exact ⟨h1,ac7 h2 k2,aar ((aa4 a2.2).2 ⟨aar a',aar a2.1⟩),by rw [e,adc],p1,h2,k2,a2.2,rfl,p2,hL⟩
theorem amH {b o o':Nat} {xs ys:List Value} {L:List aad} (ho:o+xs.length=o'):Ent (pts b o xs::pts b o' ys::L) (pts b o (xs++ys)::L):=fun h s =>by
 subst ho
 obtain ⟨k1,k2,a,e,hA,k3,k4,a',e',hB,hL⟩:=s
 subst e'
 have a1:=(aa4 a').1 (aar a)
 exact ⟨ac7 k1 k3,k4,(aa4 (aar a1.1)).2 ⟨aar a1.2,a'⟩,by rw [e,adc],aB4 hA hB (aar a1.1),hL⟩
section
variable {α:Type} (enc:α→Option Addr→Nat→List Value) (lst:α→List Int) (sz:Nat)
end
section
variable {α:Type} {enc:α→Option Addr→Nat→List Value} {lst:α→List Int} {sz:Nat}
variable {r:Option Nat} {P:Program} {ops:Array Oper} {Q:Exit→Act→World→Prop} {n B:Nat} {W:World} {R R':ac4} {L L' M:List aad} {v:Value} {x y z:Operand}
 {d:Option Tmp} {ty:TypeId} {ps:String} {af:Array Edge} {g:Option (Nat×Bool)} {T T':TypeId} {A:Option Addr} {c i:Nat} {xs:List α}
end
structure AccV where
 kind:Int
 cell:Int
 old:Int
 new:Int
 deriving DecidableEq,Inhabited
structure MemV where
 cells:List Int
 last:AccV
 count:Int
 deriving DecidableEq,Inhabited
structure RecV where
 prog:Int
 parent:Int
 pc:Int
 left:Int
 waiting:Int
 kids:List Int
 started:Bool
 deriving DecidableEq,Inhabited
structure QV where
 top:Int
 bottom:Int
 ring:Int
 cap:Int
 deriving DecidableEq,Inhabited
structure FrV where
 kind:Int
 line:Int
 q:QV
 a:Int
 b:Int
 d:Int
 i:Int
 j:Int
 n:Int
 t:Int
 u:Int
 v:Int
 w:Int
 x:Int
 l:List Int
 deriving DecidableEq,Inhabited
structure ResV where
 done:Bool
 code:Int
 value:Int
 deriving DecidableEq,Inhabited
structure EntV where
 kind:Int
 value:Int
 deriving DecidableEq,Inhabited
deriving instance Inhabited for Ins
deriving instance Inhabited for Sub
deriving instance Inhabited for Ev
def EntV.enc (x:EntV):List Value:=[.int .i64 x.kind,.int .i64 x.value]
instance : Inhabited Addr := ⟨⟨0,0,none⟩⟩
@[reducible] def wi (a : Int) : Int := IntKind.i64.wrap a
@[reducible] def wu (a : Int) : Int := IntKind.u64.wrap a
@[reducible] def orU (a b : Int) : Int := IntKind.u64.wrap (BitVec.ofInt IntKind.u64.bits a ||| BitVec.ofInt IntKind.u64.bits b).toNat
@[reducible] def ani (a b : Int) : Int := IntKind.u64.wrap (BitVec.ofInt IntKind.u64.bits a &&& BitVec.ofInt IntKind.u64.bits b).toNat
@[reducible] def aC4 (a : Int) : Int := IntKind.u64.wrap (BitVec.ofInt IntKind.u64.bits (if IntKind.u64.signed then -1 else IntKind.u64.max) ^^^ BitVec.ofInt IntKind.u64.bits a).toNat
def at_ {α:Type} [Inhabited α] (xs:List α) (i:Int):α:=(xs[i.toNat]?).getD default
section
variable {r:Option Nat} {P:Program} {ops:Array Oper} {Q:Exit→Act→World→Prop} {n B:Nat} {W:World} {R R':ac4} {L L' M:List aad} {v:Value} {x y z:Operand}
 {d:Option Tmp} {ty:TypeId} {ps:String} {af:Array Edge} {g:Option (Nat×Bool)} {T T':TypeId} {α:Type} {enc:α→List Value} {sz:Nat} {A:Option Addr} {c:Nat} {xs:List α}
end
def ae3 (k:Int):List MapEntry→Option Value
 | [] =>none
 | e::es =>match e.key with
  | .int .i64 j =>if k=j then some e.val else ae3 k es
  | _ =>ae3 k es
def aqh {α:Type} (enc:α→Value) (m:Int→Option α) (es:List MapEntry):Prop :=
 (∀ e∈es,∃ j,e.key=.int .i64 j)∧es.Pairwise (fun a b =>a.key≠b.key)∧∀ k,ae3 k es=(m k).map enc
def aKO {α:Type} (enc:α→Value) (m:Int→Option α) (b:Nat):aad:=fun h =>∃ es clock,aqh enc m es.toList∧ayd b (.map es clock) h
def aIe {α:Type} (m:Int→Option α) (k:Int) (x:α):Int→Option α:=fun j =>if j=k then some x else m j
def aIf {α:Type} (m:Int→Option α) (k:Int):Int→Option α:=fun j =>if j=k then none else m j
def mp0 {α:Type}:Int→Option α:=fun _ =>none
section
variable {P:Program} {w:World} {b:Nat} {clock:Nat} {t kt et:TypeId} {k:Int}
theorem aot {q:IntKind}:∀ {es:List MapEntry} {i:Nat},(∀ e∈es,∃ j,e.key=.int .i64 j) →
  ∃ r,Instr.findNow (.int q) (.int .i64 k) es i=some r∧(r=none→ae3 k es=none)∧∀ j v,r=some (j,v)→i≤j∧∃ e,es[j-i]?=some e∧e.key=.int .i64 k∧e.val=v∧ae3 k es=some v
 | [],i,_ =>⟨none,rfl,fun _ =>rfl,fun j v h =>by cases h⟩
 | e::es,i,h =>by
  obtain ⟨j,hj⟩:=h e (List.mem_cons_self ..)
  obtain ⟨r,h1,h2,h3⟩:=aot (i:=i+1) (es:=es) fun x hx =>h x (List.mem_cons_of_mem _ hx)
  unfold Instr.findNow
  simp only [hj,Instr.sameNow,if_true,ae3]
  by_cases hk:k=j
  ·subst hk
   simp only [beq_self_eq_true,if_true]
   refine ⟨_,rfl,fun h =>(by cases h),fun j v h =>?_⟩
   cases h
   exact ⟨Nat.le_refl _,e,by simp,hj,rfl,rfl⟩
  ·have hb:(k == j)=false:=by simp [hk]
   simp only [hb,if_neg hk]
   refine ⟨r,h1,h2,fun j v hr =>?_⟩
   obtain ⟨a1,e',a2,a3⟩:=h3 j v hr
   refine ⟨by omega,e',?_,a3⟩
   have:j-i=(j-(i+1))+1:=by omega
   rw [this]; simpa using a2
theorem aqR {emp:Bool} (hk:P.underlying kt=some (.int .i64)):(Instr.checkKey emp 10000 kt (.int .i64 k)).run P w=.ok () w:=by
 rw [show (10000:Nat)=9999+1 from rfl,Instr.checkKey]
 simp [run_underlying hk,Result.andThen]
theorem azI {es:Array MapEntry} {z:Value} {ok:Bool} (ht:P.underlying t=some (.map kt et)) (hk:P.underlying kt=some (.int .i64)) (hz:(zeroValue et).run P w=.ok z w) (hb:w.heap[b]?=some (.map es clock)) (hr:∀ e∈es.toList,∃ j,e.key=.int .i64 j) :
  (Instr.lookup t (.map (some b)) (.int .i64 k) ok).run P w=.ok (if ok=true then .tuple #[(ae3 k es.toList).getD z,.bool (ae3 k es.toList).isSome] else (ae3 k es.toList).getD z) w:=by
 obtain ⟨r,h1,h2,h3⟩:=aot (k:=k) (q:=.i64) (i:=0) hr
 cases r with
 | none =>
  have e1:=h2 rfl
  rw [e1]
  cases ok<;>simp [Instr.lookup,run_underlying ht,MapKept.run_getObj_map hb,aqR hk,Instr.findKey,run_underlying hk,h1,hz,Result.andThen]
 | some p =>
  obtain ⟨j,v⟩:=p
  obtain ⟨_,e,_,_,_,e1⟩:=h3 j v rfl
  rw [e1]
  cases ok<;>simp [Instr.lookup,run_underlying ht,MapKept.run_getObj_map hb,aqR hk,Instr.findKey,run_underlying hk,h1,Result.andThen]
theorem am4:∀ {es:List MapEntry},ae3 k es=none→∀ e∈es,e.key≠.int .i64 k
 | [],_,e,he =>by cases he
 | x::es,h,e,he =>by
  unfold ae3 at h
  rcases List.mem_cons.1 he with rfl | he
  ·intro hk
   rw [hk] at h
   simp at h
  ·split at h
   ·split at h
    ·cases h
    ·exact am4 h e he
   ·exact am4 h e he
theorem apS:∀ {es l:List MapEntry} {j:Int},ae3 j (es++l)=match ae3 j es with
  | some v =>some v
  | none =>ae3 j l
 | [],l,j =>rfl
 | x::es,l,j =>by
  simp only [List.cons_append,ae3]
  split
  ·split
   ·rfl
   ·exact apS
  ·exact apS
theorem aCN {es:List MapEntry} {j:Int} (h:∀ e∈es,e.key≠.int .i64 j):ae3 j es=none:=by
 induction es with
 | nil =>rfl
 | cons x es ih =>
  have h1:=h x (List.mem_cons_self ..)
  have h2:=ih fun e he =>h e (List.mem_cons_of_mem _ he)
  unfold ae3
  split
  ·rename_i a hk
   rw [if_neg]
   ·exact h2
   ·intro e; subst e; exact h1 hk
  ·exact h2
theorem awV {v:Value}:∀ {es:List MapEntry} {i:Nat} {e:MapEntry} {j:Int},es.Pairwise (fun a b =>a.key≠b.key)→es[i]?=some e→e.key=.int .i64 k →
  ae3 j (es.modify i fun e =>{ e with key:=.int .i64 k,val:=v })=if j=k then some v else ae3 j es
 | [],i,e,j,_,h,_ =>by simp at h
 | x::es,0,e,j,hp,h,hk =>by
  simp at h; subst h
  simp only [List.modify_zero_cons,ae3,hk]
  by_cases hj:j=k
  ·rw [if_pos hj,if_pos hj]
  ·rw [if_neg hj,if_neg hj,if_neg hj]
 | x::es,i+1,e,j,hp,h,hk =>by
  rw [List.pairwise_cons] at hp
  have ih:=awV (v:=v) (j:=j) hp.2 (by simpa using h) hk
  have hx:x.key≠.int .i64 k:=fun hx =>hp.1 e (List.mem_of_getElem? (by simpa using h)) (hx.trans hk.symm)
  simp only [List.modify_succ_cons,ae3]
  split
  ·rename_i a ha
   by_cases hja:j=a
   ·rw [if_pos hja,if_pos hja,if_neg]
    intro e1; apply hx; rw [ha,← hja,e1]
   ·rw [if_neg hja,if_neg hja]; exact ih
  ·exact ih
theorem arR {v:Value}:∀ {es:List MapEntry} {i:Nat} {e:MapEntry},es[i]?=some e→e.key=.int .i64 k →
  (es.modify i fun e =>{ e with key:=.int .i64 k,val:=v }).map (·.key)=es.map (·.key)
 | [],i,e,h,_ =>by simp at h
 | x::es,0,e,h,hk =>by simp at h; subst h; simp [hk]
 | x::es,i+1,e,h,hk =>by
  have ih:=arR (v:=v) (es:=es) (i:=i) (by simpa using h) hk
  simp only [List.modify_succ_cons,List.map_cons,ih]
theorem azR {es fs:List MapEntry} (h:fs.map (·.key)=es.map (·.key)) (hp:es.Pairwise (fun a b =>a.key≠b.key)):fs.Pairwise (fun a b =>a.key≠b.key):=by
 have h1:(es.map (·.key)).Pairwise (·≠·):=List.pairwise_map.2 hp
 rw [← h] at h1
 exact List.pairwise_map.1 h1
theorem aCE {es fs:List MapEntry} (h:fs.map (·.key)=es.map (·.key)) (hp:∀ e∈es,∃ j,e.key=.int .i64 j):∀ e∈fs,∃ j,e.key=.int .i64 j:=fun e he =>by
 have:e.key∈es.map (·.key):=by rw [← h]; exact List.mem_map_of_mem he
 obtain ⟨x,hx,e1⟩:=List.mem_map.1 this
 rw [← e1]; exact hp x hx
theorem axj:∀ {es:List MapEntry} {i:Nat} {e:MapEntry} {j:Int},es.Pairwise (fun a b =>a.key≠b.key)→es[i]?=some e→e.key=.int .i64 k →
  ae3 j (es.eraseIdx i)=if j=k then none else ae3 j es
 | [],i,e,j,_,h,_ =>by simp at h
 | x::es,0,e,j,hp,h,hk =>by
  simp at h; subst h
  rw [List.pairwise_cons] at hp
  simp only [List.eraseIdx_cons_zero,ae3,hk]
  by_cases hj:j=k
  ·rw [if_pos hj,hj]
   exact aCN fun e he e1 =>hp.1 e he (hk.trans e1.symm)
  ·rw [if_neg hj,if_neg hj]
 | x::es,i+1,e,j,hp,h,hk =>by
  rw [List.pairwise_cons] at hp
  have ih:=axj (j:=j) hp.2 (by simpa using h) hk
  have hx:x.key≠.int .i64 k:=fun hx =>hp.1 e (List.mem_of_getElem? (by simpa using h)) (hx.trans hk.symm)
  simp only [List.eraseIdx_cons_succ,ae3]
  split
  ·rename_i a ha
   by_cases hja:j=a
   ·rw [if_pos hja,if_pos hja,if_neg]
    intro e1; apply hx; rw [ha,← hja,e1]
   ·rw [if_neg hja,if_neg hja]; exact ih
  ·exact ih
theorem aB1 {α:Type} {enc:α→Value} {m:Int→Option α} {x:α} {es:Array MapEntry} (ht:P.underlying t=some (.map kt et)) (hk:P.underlying kt=some (.int .i64)) (hb:w.heap[b]?=some (.map es clock)) (hr:aqh enc m es.toList) :
  ∃ es' clock',(Instr.mapUpdate t (.map (some b)) (.int .i64 k) (enc x)).run P w=.ok () (w.putObj b (.map es' clock'))∧aqh enc (aIe m k x) es'.toList:=by
 obtain ⟨r1,r2,r3⟩:=hr
 obtain ⟨r,h1,h2,h3⟩:=aot (k:=k) (q:=.i64) (i:=0) r1
 cases r with
 | none =>
  have e1:=h2 rfl
  refine ⟨es.push ⟨.int .i64 k,enc x,clock⟩,clock+1,?_,?_,?_,fun j =>?_⟩
  ·simp [Instr.mapUpdate,run_underlying ht,MapKept.run_getObj_map hb,aqR hk,Instr.findKey,run_underlying hk,h1,MapKept.run_setObj_map _ hb,Result.andThen,World.putObj]
  ·intro e he
   rw [Array.toList_push] at he
   rcases List.mem_append.1 he with he | he
   ·exact r1 e he
   ·rw [List.mem_singleton.1 he]; exact ⟨k,rfl⟩
  ·rw [Array.toList_push,List.pairwise_append]
   refine ⟨r2,by simp,fun a ha c hc =>?_⟩
   rw [List.mem_singleton.1 hc]
   exact am4 e1 a ha
  ·rw [Array.toList_push,apS]
   show _=Option.map enc (if j=k then some x else m j)
   by_cases hj:j=k
   ·rw [if_pos hj,hj,e1]
    simp [ae3]
   ·rw [if_neg hj,← r3 j]
    cases ae3 j es.toList with
    | some v =>rfl
    | none =>simp [ae3,hj]
 | some p =>
  obtain ⟨i,v⟩:=p
  obtain ⟨_,e,a1,a2,a3,a4⟩:=h3 i v rfl
  simp only [Nat.sub_zero] at a1
  have ai:es[i]?=some e:=by rw [← Array.getElem?_toList]; exact a1
  have hs:Instr.sameBits 10000 (.int .i64 k) (.int .i64 k)=true:=by simp [Instr.sameBits]
  refine ⟨es.modify i fun e =>{ e with key:=.int .i64 k,val:=enc x },clock,?_,?_,?_,fun j =>?_⟩
  ·simp [Instr.mapUpdate,run_underlying ht,MapKept.run_getObj_map hb,aqR hk,Instr.findKey,run_underlying hk,h1,ai,a2,Instr.keyThatStays,hs,MapKept.run_setObj_map _ hb,Result.andThen,World.putObj]
  ·rw [Array.toList_modify]; exact aCE (arR a1 a2) r1
  ·rw [Array.toList_modify]; exact azR (arR a1 a2) r2
  ·rw [Array.toList_modify,awV r2 a1 a2]
   show _=Option.map enc (if j=k then some x else m j)
   by_cases hj:j=k
   ·rw [if_pos hj,if_pos hj]; rfl
   ·rw [if_neg hj,if_neg hj]; exact r3 j
theorem aC0 {α:Type} {enc:α→Value} {m:Int→Option α} {ty u:TypeId} {es:Array MapEntry} (ht:P.underlying t=some (.map kt et)) (hk:P.underlying kt=some (.int .i64)) (hb:w.heap[b]?=some (.map es clock)) (hr:aqh enc m es.toList) :
  ∃ es' clock',(Builtin.delete_ #[t,u] ty #[.map (some b),.int .i64 k]).run P w=.ok (.tuple #[]) (w.putObj b (.map es' clock'))∧aqh enc (aIf m k) es'.toList:=by
 obtain ⟨r1,r2,r3⟩:=hr
 obtain ⟨r,h1,h2,h3⟩:=aot (k:=k) (q:=.i64) (i:=0) r1
 cases r with
 | none =>
  have e1:=h2 rfl
  refine ⟨es,clock,?_,r1,r2,fun j =>?_⟩
  ·simp [Builtin.delete_,run_underlying ht,MapKept.run_getObj_map hb,aqR hk,Instr.findKey,run_underlying hk,h1,MapKept.run_setObj_map _ hb,Result.andThen,World.putObj]
  ·show _=Option.map enc (if j=k then none else m j)
   by_cases hj:j=k
   ·rw [if_pos hj,hj,e1]; rfl
   ·rw [if_neg hj]; exact r3 j
 | some p =>
  obtain ⟨i,v⟩:=p
  obtain ⟨_,e,a1,a2,a3,a4⟩:=h3 i v rfl
  simp only [Nat.sub_zero] at a1
  have hi:i<es.size:=by
   have:=(List.getElem?_eq_some_iff.1 a1).1
   simpa using this
  refine ⟨es.eraseIdxIfInBounds i,clock,?_,?_,?_,fun j =>?_⟩
  ·simp [Builtin.delete_,run_underlying ht,MapKept.run_getObj_map hb,aqR hk,Instr.findKey,run_underlying hk,h1,MapKept.run_setObj_map _ hb,Result.andThen,World.putObj]
  ·intro e he
   have he:e∈es.toList.eraseIdx i:=by simpa [Array.eraseIdxIfInBounds,hi] using he
   exact r1 e (List.mem_of_mem_eraseIdx he)
  ·have:(es.eraseIdxIfInBounds i).toList=es.toList.eraseIdx i:=by simp [Array.eraseIdxIfInBounds,hi]
   rw [this]; exact r2.eraseIdx i
  ·have:(es.eraseIdxIfInBounds i).toList=es.toList.eraseIdx i:=by simp [Array.eraseIdxIfInBounds,hi]
   rw [this,axj r2 a1 a2]
   show _=Option.map enc (if j=k then none else m j)
   by_cases hj:j=k
   ·rw [if_pos hj,if_pos hj]; rfl
   ·rw [if_neg hj,if_neg hj]; exact r3 j
end
inductive Fl (T:Nat→Type) (M:Type) where
 | i (k:IntKind) (x:Int)
 | b (x:Bool)
 | c (v:Value)
 | own (c:Nat) (x:T c)
 | row (c:Nat) (xs:List (T c))
 | ro (c:Nat) (xs:List (T c))
 | rr (c:Nat) (xss:List (List (T c)))
 | mach (m:M)
 | o
 | mp (c:Nat) (ag:Bool) (m:Int→Option (T c))
def ajf {T:Nat→Type} {M:Type}:List (Fl T M)→Bool
 | [] =>true
 | f::l =>match f with
  | .i .. =>ajf l
  | .b .. =>ajf l
  | _ =>false
structure KT where
 T:Nat→Type
 M:Type
 df:(c:Nat)→T c
 sz:Nat→Nat
 vw:(c:Nat)→T c→List (Fl T M)
 bk:(c:Nat)→List (Fl T M)→Option (T c)
 bk_ok:∀ c l x,bk c l=some x→vw c x=l
 sz_ok:∀ c x,(vw c x).length=sz c
 pl:Nat→Bool
 pl_ok:∀ c,pl c=true→∀ x,ajf (vw c x)=true
 nc:∀ c x,∀ f∈vw c x,∀ u,f≠.c u
 tid:Nat→TypeId
 tk:TypeId→Option Nat
 spl:M→Option (Σ c:Nat,T c)
 nilM:M
 nilM_ok:spl nilM=none
 mkM:(c:Nat)→T c→Option M
 mkM_ok:∀ c x m,mkM c x=some m→spl m=some ⟨c,x⟩
 kd:TypeId→Option Nat
 kd_ok:∀ t c,kd t=some c→tid c=t
 ls:(c c':Nat)→Option (PLift (T c'=List (T c)))
 ls_ok:∀ c c' h,ls c c'=some h→∀ x,vw c' x=[.ro c (h.down▸x)]∨(vw c' x=[.row c (h.down▸x)]∧pl c=true∧0<sz c)
section
variable {T:Nat→Type} {M:Type}
def flV:Fl T M→Value
 | .i k x =>.int k x
 | .b x =>.bool x
 | .c v =>v
 | _ =>undef
end
def rrS {α:Type} (enc:α→List Value) (sz:Nat) (A:Option Addr) (c:Nat) (xss:List (List α)):aad:=fun h =>∃ ps:List (Option Addr×Nat),ae2 (fun u =>(xss.length≤9223372036854775807∧xss.length≤c) ∧
 ∀ (i:Nat) (xs:List α),xss[i]?=some xs→∃ a,ps[i]?=some a∧(Sl enc sz u u.heap.size a.1 xs∧xs.length≤a.2)∧∃ b o,A=some ⟨b,o,none⟩∧b<u.heap.size∧u.cell? ⟨b,o+i,none⟩=some (.slice a.1 xs.length a.2)) h
def anV (p:Prop):aad:=fun _ =>p
theorem apV {p:Prop} {L:List aad} (h:p):Ent L (anV p::L):=fun k s =>⟨fun _ _ =>none,k,fun _ _ =>.inl rfl,by funext x y; rfl,h,s⟩
section
variable (K:KT)
abbrev KT.F:=Fl K.T K.M
def ae4 (c:Nat) (x:K.T c):List Value:=(K.vw c x).map flV
def auD (c:Nat) (ag:Bool) (x:K.T c):Value:=match ag with
 | true =>.agg ((K.vw c x).map flV).toArray
 | false =>((K.vw c x).map flV).headD undef
abbrev ObS:=(c:Nat)→K.T c→Nat×Nat→aad
abbrev RwS:=(c:Nat)→List (K.T c)→Option Addr→Nat→aad
def pcW (ob:ObS K) (rw_:RwS K):Fl K.T K.M→Value→aad
 | .i k x,v =>anV (v=.int k x)
 | .b x,v =>anV (v=.bool x)
 | .c u,v =>anV (v=u)
 | .own c x,v =>fun h =>∃ q,v=.pointer (some ⟨q.1,q.2,none⟩)∧ob c x q h
 | .row c xs,v =>fun h =>∃ A cap,v=.slice A xs.length cap∧rw_ c xs A cap h
 | .ro c xs,v =>fun h =>∃ A cap,v=.slice A xs.length cap∧roS (ae4 K c) (K.sz c) A cap xs h
 | .rr c xss,v =>fun h =>∃ A cap,v=.slice A xss.length cap∧rrS (ae4 K c) (K.sz c) A cap xss h
 | .mach m,v =>fun h =>match K.spl m with
  | none =>v=.nilIface
  | some p =>∃ q,v=.iface (K.tid p.1) (.pointer (some ⟨q.1,q.2,none⟩))∧ob p.1 p.2 q h
 | .o,v =>anV (adw v=true)
 | .mp c ag m,v =>fun h =>∃ b,v=.map (some b)∧aKO (auD K c ag) m b h
end
def fsS {F:Type} (pc:F→Value→aad):List F→List Value→List aad
 | [],[] =>[]
 | f::fs,v::vs =>pc f v::fsS pc fs vs
 | _,_ =>[fun _ =>False]
section
variable (K:KT)
def obW (pc:Fl K.T K.M→Value→aad):ObS K:=fun c x q h =>∃ vs,abY (pts q.1 q.2 vs::fsS pc (K.vw c x) vs) h
def act (pc:Fl K.T K.M→Value→aad) (c:Nat):List (K.T c)→List (List Value)→List aad
 | [],[] =>[]
 | x::xs,vs::vss =>fsS pc (K.vw c x) vs++act pc c xs vss
 | _,_ =>[fun _ =>False]
def rwW (pc:Fl K.T K.M→Value→aad):RwS K:=fun c xs A cap h =>∃ vss:List (List Value),abY (ae5 A xs.length cap (K.sz c) vss.flatten::act K pc c xs vss) h
def pcN:Nat→Fl K.T K.M→Value→aad
 | 0 =>pcW K (fun _ _ _ _ =>False) (fun _ _ _ _ _ =>False)
 | n+1 =>pcW K (obW K (pcN n)) (rwW K (pcN n))
def pcS (f:Fl K.T K.M) (v:Value):aad:=fun h =>∃ n,pcN K n f v h
def obS:ObS K:=fun c x q h =>∃ n,obW K (pcN K n) c x q h
def rwS:RwS K:=fun c xs A cap h =>∃ n,rwW K (pcN K n) c xs A cap h
end
section
variable {K:KT}
theorem aj5 {F:Type} {pc pc':F→Value→aad} (hm:∀ f v h,pc f v h→pc' f v h):∀ (fs:List F) (vs:List Value) (L:List aad) (h:Hp),abY (fsS pc fs vs++L) h→abY (fsS pc' fs vs++L) h
 | [],[],_,_,s =>s
 | f::fs,v::vs,L,h,s =>aaL (hm f v) (abu (fun h s =>aj5 hm fs vs L h s) s)
 | [],_::_,_,_,⟨_,_,_,_,hf,_⟩ =>hf.elim
 | _::_,[],_,_,⟨_,_,_,_,hf,_⟩ =>hf.elim
theorem alg {pc pc':Fl K.T K.M→Value→aad} (hm:∀ f v h,pc f v h→pc' f v h) {c:Nat}:∀ (xs:List (K.T c)) (vss:List (List Value)) (L:List aad) (h:Hp),abY (act K pc c xs vss++L) h→abY (act K pc' c xs vss++L) h
 | [],[],_,_,s =>s
 | x::xs,vs::vss,L,h,s =>by
  simp only [act,List.append_assoc] at s ⊢
  have s1:=aj5 hm _ _ _ h s
  obtain ⟨k1,k2,a,e,h1,h2⟩:=aal.1 s1
  exact aal.2 ⟨k1,k2,a,e,h1,alg hm xs vss L k2 h2⟩
 | [],_::_,_,_,⟨_,_,_,_,hf,_⟩ =>hf.elim
 | _::_,[],_,_,⟨_,_,_,_,hf,_⟩ =>hf.elim
theorem aCs {pc pc':Fl K.T K.M→Value→aad} (hm:∀ f v h,pc f v h→pc' f v h) (c:Nat) (x:K.T c) (q:Nat×Nat) (h:Hp) (s:obW K pc c x q h):obW K pc' c x q h:=by
 obtain ⟨vs,s⟩:=s
 refine ⟨vs,abu (fun k hk =>?_) s⟩
 have:=aj5 hm (K.vw c x) vs [] k (by simpa using hk)
 simpa using this
theorem aBR {pc pc':Fl K.T K.M→Value→aad} (hm:∀ f v h,pc f v h→pc' f v h) (c:Nat) (xs:List (K.T c)) (A:Option Addr) (cap:Nat) (h:Hp) (s:rwW K pc c xs A cap h):rwW K pc' c xs A cap h:=by
 obtain ⟨vs,s⟩:=s
 refine ⟨vs,abu (fun k hk =>?_) s⟩
 have:=alg hm xs vs [] k (by simpa using hk)
 simpa using this
theorem aom {ob ob':ObS K} {rw_ rw':RwS K} (h1:∀ c x q h,ob c x q h→ob' c x q h) (h2:∀ c xs A cap h,rw_ c xs A cap h→rw' c xs A cap h):∀ f v h,pcW K ob rw_ f v h→pcW K ob' rw' f v h:=by
 intro f v h hp
 cases f with
 | i k x =>exact hp
 | b x =>exact hp
 | c u =>exact hp
 | own c x =>obtain ⟨q,e,hq⟩:=hp; exact ⟨q,e,h1 _ _ _ _ hq⟩
 | row c xs =>obtain ⟨A,cap,e,hq⟩:=hp; exact ⟨A,cap,e,h2 _ _ _ _ _ hq⟩
 | ro c xs =>exact hp
 | rr c xss =>exact hp
 | mach m =>
  simp only [pcW] at hp ⊢
  split at hp
  ·exact hp
  ·obtain ⟨q,e',hq⟩:=hp; exact ⟨q,e',h1 _ _ _ _ hq⟩
 | o =>exact hp
 | mp c ag m =>exact hp
theorem arz:∀ (n:Nat) (f:Fl K.T K.M) (v:Value) (h:Hp),pcN K n f v h→pcN K (n+1) f v h
 | 0,f,v,h,hp =>aom (fun _ _ _ _ h =>h.elim) (fun _ _ _ _ _ h =>h.elim) f v h hp
 | n+1,f,v,h,hp =>aom (aCs (arz n)) (aBR (arz n)) f v h hp
theorem awB {n m:Nat} (hle:n≤m) (f:Fl K.T K.M) (v:Value) (h:Hp) (hp:pcN K n f v h):pcN K m f v h:=by
 induction hle with
 | refl =>exact hp
 | step _ ih =>exact arz _ _ _ _ ih
theorem apO:∀ (fs:List (Fl K.T K.M)) (vs:List Value) (h:Hp),abY (fsS (pcS K) fs vs) h→∃ n,abY (fsS (pcN K n) fs vs) h
 | [],[],_,s =>⟨0,s⟩
 | f::fs,v::vs,h,⟨k1,k2,a,e,⟨n,hf⟩,hL⟩ =>by
  obtain ⟨m,hm⟩:=apO fs vs k2 hL
  refine ⟨max n m,k1,k2,a,e,awB (Nat.le_max_left ..) _ _ _ hf,?_⟩
  have:=aj5 (awB (K:=K) (Nat.le_max_right n m)) fs vs [] k2 (by simpa using hm)
  simpa using this
 | [],_::_,_,⟨_,_,_,_,hf,_⟩ =>hf.elim
 | _::_,[],_,⟨_,_,_,_,hf,_⟩ =>hf.elim
theorem aqz {c:Nat}:∀ (xs:List (K.T c)) (vss:List (List Value)) (h:Hp),abY (act K (pcS K) c xs vss) h→∃ n,abY (act K (pcN K n) c xs vss) h
 | [],[],_,s =>⟨0,s⟩
 | x::xs,vs::vss,h,s =>by
  obtain ⟨k1,k2,a,e,h1,h2⟩:=aal.1 s
  obtain ⟨n,hn⟩:=apO _ _ _ h1
  obtain ⟨m,hm⟩:=aqz xs vss k2 h2
  refine ⟨max n m,aal.2 ⟨k1,k2,a,e,?_,?_⟩⟩
  ·have:=aj5 (awB (K:=K) (Nat.le_max_left n m)) (K.vw c x) vs [] k1 (by simpa using hn)
   simpa using this
  ·have:=alg (awB (K:=K) (Nat.le_max_right n m)) xs vss [] k2 (by simpa using hm)
   simpa using this
 | [],_::_,_,⟨_,_,_,_,hf,_⟩ =>hf.elim
 | _::_,[],_,⟨_,_,_,_,hf,_⟩ =>hf.elim
theorem aIJ {n:Nat} {fs:List (Fl K.T K.M)} {vs:List Value} {h:Hp} (s:abY (fsS (pcN K n) fs vs) h):abY (fsS (pcS K) fs vs) h:=by
 have:=aj5 (pc:=pcN K n) (pc':=pcS K) (fun f v h hp =>⟨n,hp⟩) fs vs [] h (by simpa using s)
 simpa using this
theorem amU {c:Nat} {x:K.T c} {q:Nat×Nat} {h:Hp}:obS K c x q h↔∃ vs,abY (pts q.1 q.2 vs::fsS (pcS K) (K.vw c x) vs) h:=by
 constructor
 ·rintro ⟨n,vs,s⟩
  exact ⟨vs,abu (fun _ =>aIJ) s⟩
 ·rintro ⟨vs,k1,k2,a,e,hp,hL⟩
  obtain ⟨n,hn⟩:=apO _ _ _ hL
  exact ⟨n,vs,k1,k2,a,e,hp,hn⟩
theorem adl {c:Nat} {xs:List (K.T c)} {A:Option Addr} {cap:Nat} {h:Hp}:rwS K c xs A cap h↔∃ vss:List (List Value),abY (ae5 A xs.length cap (K.sz c) vss.flatten::act K (pcS K) c xs vss) h:=by
 constructor
 ·rintro ⟨n,vs,s⟩
  refine ⟨vs,abu (fun k hk =>?_) s⟩
  have:=alg (pc:=pcN K n) (pc':=pcS K) (fun f v h hp =>⟨n,hp⟩) xs vs [] k (by simpa using hk)
  simpa using this
 ·rintro ⟨vs,k1,k2,a,e,hp,hL⟩
  obtain ⟨n,hn⟩:=aqz _ _ _ hL
  exact ⟨n,vs,k1,k2,a,e,hp,hn⟩
theorem aaI {f:Fl K.T K.M} {v:Value} {h:Hp}:pcS K f v h↔pcW K (obS K) (rwS K) f v h:=by
 constructor
 ·rintro ⟨n,hp⟩
  cases n with
  | zero =>exact aom (fun _ _ _ _ h =>h.elim) (fun _ _ _ _ _ h =>h.elim) f v h hp
  | succ n =>exact aom (fun _ _ _ _ h =>⟨n,h⟩) (fun _ _ _ _ _ h =>⟨n,h⟩) f v h hp
 ·intro hp
  cases f with
  | i k x =>exact ⟨0,hp⟩
  | b x =>exact ⟨0,hp⟩
  | c u =>exact ⟨0,hp⟩
  | own c x =>obtain ⟨q,e,n,hq⟩:=hp; exact ⟨n+1,q,e,hq⟩
  | row c xs =>obtain ⟨A,cap,e,n,hq⟩:=hp; exact ⟨n+1,A,cap,e,hq⟩
  | ro c xs =>exact ⟨0,hp⟩
  | rr c xss =>exact ⟨0,hp⟩
  | mach m =>
   simp only [pcW] at hp
   split at hp
   ·rename_i e; exact ⟨0,by simp only [pcN,pcW,e]; exact hp⟩
   ·rename_i p e
    obtain ⟨q,e',n,hq⟩:=hp
    exact ⟨n+1,by simp only [pcN,pcW,e]; exact ⟨q,e',hq⟩⟩
  | o =>exact ⟨0,hp⟩
  | mp c ag m =>exact ⟨0,hp⟩
end
inductive Fd (T:Nat→Type) (M:Type) where
 | v (x:V)
 | f (x:Fl T M)
inductive Ch (T:Nat→Type) (M:Type) where
 | cells (fs:List (Fd T M))
 | row (c:Nat) (xs:List (T c))
 | ro (c:Nat) (xs:List (T c))
 | rr (c:Nat) (xss:List (List (T c)))
 | elt (j:Nat) (i:Int) (sz:Nat)
 | arr (m sz:Nat) (vs:List V)
 | mach (m:M)
 | any (A:aad)
 | hole (c:Nat) (xs:List (T c)) (i:Int) (o:Nat) (u:V)
 | gap (c:Nat) (xs:List (T c)) (i:Int) (e:Nat)
 | slc (e m sz:Nat)
 | mp (c:Nat) (ag:Bool) (m:Int→Option (T c))
section
variable (K:KT)
abbrev KT.D:=Fd K.T K.M
abbrev KT.C:=Ch K.T K.M
abbrev KT.H:=List (Nat×Ch K.T K.M)
def fS (ρ:Env):Fd K.T K.M→Value→aad
 | .v x,v =>anV (v=aau ρ x)
 | .f x,v =>pcS K x v
def avY (ρ:Env) (id j sz:Nat) (i:Int):Prop:=(0≤i∧i<((ρ.s j).n:Int))∧∃ b o,(ρ.s j).a=some ⟨b,o,none⟩∧ρ.p id=(b,o+i.toNat*sz)
def aKU (A:Option Addr) (n cap c:Nat) (xs:List (K.T c)) (i:Int) (q:Nat×Nat):aad:=fun h =>∃ (b o:Nat) (vss:List (List Value)) (spare:List Value) (N:List aad),(0≤i∧i<(xs.length:Int))∧(A=some ⟨b,o,none⟩∧n=xs.length∧q=(b,o+i.toNat*K.sz c))∧(vss.length=xs.length∧∀ v∈vss,v.length=K.sz c) ∧
 (xs.length≤cap∧cap≤maxLen∧spare.length=(cap-xs.length)*K.sz c)∧(∀ x' vs',(act K (pcS K) c (xs.set i.toNat x') (vss.set i.toNat vs')).Perm (fsS (pcS K) (K.vw c x') vs'++N)) ∧
 abY (pts b o (vss.flatten.take (i.toNat*K.sz c))::pts b (o+i.toNat*K.sz c+K.sz c) (vss.flatten.drop (i.toNat*K.sz c+K.sz c)++spare)::N) h
def aKC (A:Option Addr) (cap c:Nat) (xs:List (K.T c)) (i:Int) (o:Nat) (v:Value):aad:=fun h =>∃ (x:K.T c) (vss:List (List Value)) (vs:List Value) (N:List aad),
 (xs[i.toNat]?=some x∧vss[i.toNat]?=some vs∧vs[o]?=some v)∧(∀ x',(act K (pcS K) c (xs.set i.toNat x') vss).Perm (fsS (pcS K) (K.vw c x') vs++N))∧o<(K.vw c x).length ∧
 abY (ae5 A xs.length cap (K.sz c) vss.flatten::(fsS (pcS K) ((K.vw c x).eraseIdx o) (vs.eraseIdx o)++N)) h
def acg (ρ:Env) (id:Nat):Ch K.T K.M→aad
 | .cells fs =>exL fun vs:List Value =>pts (ρ.p id).1 (ρ.p id).2 vs::fsS (fS K ρ) fs vs
 | .row c xs =>fun h =>(ρ.s id).n=xs.length∧rwS K c xs (ρ.s id).a (ρ.s id).c h
 | .ro c xs =>fun h =>(ρ.s id).n=xs.length∧roS (ae4 K c) (K.sz c) (ρ.s id).a (ρ.s id).c xs h
 | .rr c xss =>fun h =>(ρ.s id).n=xss.length∧rrS (ae4 K c) (K.sz c) (ρ.s id).a (ρ.s id).c xss h
 | .elt j i sz =>anV (avY ρ id j sz i)
 | .arr m sz vs =>fun h =>(ρ.s id=⟨some ⟨(ρ.p id).1,(ρ.p id).2,none⟩,m,m⟩∧vs.length=m*sz∧m≤maxLen)∧pts (ρ.p id).1 (ρ.p id).2 (aag ρ vs) h
 | .mach m =>pcS K (.mach m) (ρ.v id)
 | .mp c ag m =>pcS K (.mp c ag m) (ρ.v id)
 | .any A =>A
 | .hole c xs i o u =>fun h =>(ρ.s id).n=xs.length∧aKC K (ρ.s id).a (ρ.s id).c c xs i o (aau ρ u) h
 | .gap c xs i e =>aKU K (ρ.s id).a (ρ.s id).n (ρ.s id).c c xs i (ρ.p e)
 | .slc e m sz =>fun h =>((ρ.s id).a=some ⟨(ρ.p e).1,(ρ.p e).2,none⟩∧(ρ.s id).n=m∧m≤(ρ.s id).c∧(ρ.s id).c≤maxLen)∧∃ spare:List Value,spare.length=((ρ.s id).c-m)*sz∧pts (ρ.p e).1 ((ρ.p e).2+m*sz) spare h
def dH (ρ:Env) (H:KT.H K):List aad:=H.map fun p =>acg K ρ p.1 p.2
end
section
variable {T:Nat→Type} {M:Type}
def aDF:Fd T M→Nat
 | .v x =>ai4 x
 | .f _ =>0
def ak9:List (Fd T M)→Nat
 | [] =>0
 | f::fs =>mx (aDF f) (ak9 fs)
def av9:Ch T M→Nat
 | .cells fs =>ak9 fs
 | .elt j _ _ =>j+1
 | .arr _ _ vs =>aib vs
 | .hole _ _ _ _ u =>ai4 u
 | .gap _ _ _ e =>e+1
 | .slc e _ _ =>e+1
 | _ =>0
def afl:List (Nat×Ch T M)→Nat
 | [] =>0
 | p::H =>mx (mx (p.1+1) (av9 p.2)) (afl H)
theorem alH {a b n:Nat} (h:mx a b≤n):a≤n∧b≤n:=⟨Nat.le_trans aGR h,Nat.le_trans aDV h⟩
end
section
variable {K:KT} {ρ ρ':Env} {n:Nat}
theorem aCQ (h:aay n ρ ρ') (f:Fd K.T K.M) (hn:aDF f≤n):fS K ρ f=fS K ρ' f:=by
 cases f with
 | v x =>funext v; simp only [fS,abf h x hn]
 | f x =>rfl
theorem apP (h:aay n ρ ρ'):∀ (fs:List (Fd K.T K.M)) (vs:List Value),ak9 fs≤n→fsS (fS K ρ) fs vs=fsS (fS K ρ') fs vs
 | [],[],_ =>rfl
 | f::fs,v::vs,hn =>by
  simp only [ak9] at hn
  simp only [fsS,aCQ h f (alH hn).1,apP h fs vs (alH hn).2]
 | [],_::_,_ =>rfl
 | _::_,[],_ =>rfl
theorem adD (h:aay n ρ ρ') {id:Nat} (hid:id<n) (c:Ch K.T K.M) (hn:av9 c≤n):acg K ρ id c=acg K ρ' id c:=by
 cases c with
 | cells fs =>
  simp only [av9] at hn
  simp only [acg,(h id hid).1]
  congr 1
  funext vs
  rw [apP h fs vs hn]
 | row c xs =>simp only [acg,(h id hid).2.1]
 | ro c xs =>simp only [acg,(h id hid).2.1]
 | rr c xs =>simp only [acg,(h id hid).2.1]
 | elt j i sz =>simp only [av9] at hn; simp only [acg,avY,(h id hid).1,(h j (by omega)).2.1]
 | arr m sz vs =>simp only [av9] at hn; simp only [acg,(h id hid).1,(h id hid).2.1,adW h vs hn]
 | mach m =>simp only [acg,(h id hid).2.2]
 | mp c ag m =>simp only [acg,(h id hid).2.2]
 | any A =>rfl
 | hole c xs i o u =>simp only [av9] at hn; simp only [acg,(h id hid).2.1,abf h u hn]
 | gap c xs i e =>simp only [av9] at hn; simp only [acg,(h id hid).2.1,(h e (by omega)).1]
 | slc e m sz =>simp only [av9] at hn; simp only [acg,(h id hid).2.1,(h e (by omega)).1]
theorem ab3 (h:aay n ρ ρ'):∀ H:KT.H K,afl H≤n→dH K ρ H=dH K ρ' H
 | [],_ =>rfl
 | p::H,hn =>by
  simp only [afl] at hn
  have h1:=alH (alH hn).1
  show acg K ρ p.1 p.2::dH K ρ H=acg K ρ' p.1 p.2::dH K ρ' H
  rw [ab3 h H (alH hn).2,adD h h1.1 _ h1.2]
theorem ask {id:Nat} {L:List aad}:∀ {H:KT.H K},Ent (dH K ρ H++L) (dH K ρ (del H id)++L)
 | [] =>Ent.refl
 | (t,c)::H =>by
  unfold del
  split
  ·exact Ent.drop.trans ask
  ·exact Ent.cons (fun _ h =>h) ask
theorem aaO {id:Nat} {c:Ch K.T K.M} {L:List aad}:∀ {H:KT.H K},get H id=some c→Ent (dH K ρ H++L) (acg K ρ id c::(dH K ρ (del H id)++L))
 | [],h =>by cases h
 | (t,c')::H,h =>by
  unfold get at h
  unfold del
  split at h
  ·rename_i e
   have e':t=id:=Nat.eq_of_beq_eq_true e
   simp only [Option.some.injEq] at h
   subst e' h
   exact Ent.cons (fun _ h =>h) ask
  ·have ih:=aaO (L:=L) (H:=H) h
   exact (Ent.cons (A:=acg K ρ t c') (fun _ h =>h) ih).trans (Ent.perm (List.Perm.swap ..))
theorem ayq {fs:List (Fd K.T K.M)} {i:Nat} {f:Fd K.T K.M} (h:fs[i]?=some f):aDF f≤ak9 fs:=by
 induction fs generalizing i with
 | nil =>cases h
 | cons g fs ih =>
  cases i with
  | zero =>simp at h; subst h; exact aGR
  | succ i =>exact Nat.le_trans (ih (by simpa using h)) aDV
theorem aic {id:Nat} {c:Ch K.T K.M}:∀ {H:KT.H K},get H id=some c→id<afl H∧av9 c≤afl H
 | [],h =>by cases h
 | (t,c')::H,h =>by
  unfold get at h
  have hm:=alH (Nat.le_refl (afl ((t,c')::H)))
  split at h
  ·rename_i e
   have e':t=id:=Nat.eq_of_beq_eq_true e
   simp only [Option.some.injEq] at h
   subst e' h
   exact ⟨(alH hm.1).1,(alH hm.1).2⟩
  ·have:=aic h
   exact ⟨Nat.lt_of_lt_of_le this.1 hm.2,Nat.le_trans this.2 hm.2⟩
theorem afk {id:Nat}:∀ {H:KT.H K},afl (del H id)≤afl H
 | [] =>Nat.le_refl _
 | (t,c)::H =>by
  unfold del
  split
  ·exact Nat.le_trans afk aDV
  ·exact aqn ⟨aGR,Nat.le_trans afk aDV⟩
theorem aj4 {F:Type} {pc:F→Value→aad}:∀ {fs:List F} {vs:List Value} {i:Nat} {f:F} {v:Value},fs[i]?=some f→vs[i]?=some v →
  (fsS pc fs vs).Perm (pc f v::fsS pc (fs.eraseIdx i) (vs.eraseIdx i))∧∀ f' v',(fsS pc (fs.set i f') (vs.set i v')).Perm (pc f' v'::fsS pc (fs.eraseIdx i) (vs.eraseIdx i))
 | [],_,_,_,_,h,_ =>by cases h
 | _::_,[],_,_,_,_,h =>by cases h
 | g::fs,u::vs,0,f,v,h,h' =>by
  simp at h h'; subst h h'
  exact ⟨.refl _,fun _ _ =>.refl _⟩
 | g::fs,u::vs,i+1,f,v,h,h' =>by
  obtain ⟨h1,h2⟩:=aj4 (pc:=pc) (fs:=fs) (vs:=vs) (i:=i) (by simpa using h) (by simpa using h')
  exact ⟨(h1.cons _).trans (.swap ..),fun f' v' =>((h2 f' v').cons _).trans (.swap ..)⟩
theorem aoQ {K:KT}:∀ {fs:List (Fd K.T K.M)} {i:Nat},ak9 (fs.eraseIdx i)≤ak9 fs
 | [],_ =>Nat.le_refl _
 | _::_,0 =>aDV
 | _::_,_+1 =>aqn ⟨aGR,Nat.le_trans aoQ aDV⟩
theorem ari {α:Type} {l:List α} {i:Nat} {a:α} (h:l[i]?=some a):l.set i a=l:=by
 obtain ⟨hlt,rfl⟩:=List.getElem?_eq_some_iff.1 h
 simp
theorem avx {F:Type} {pc:F→Value→aad}:∀ {fs:List F} {vs:List Value} {L:List aad} {h:Hp},abY (fsS pc fs vs++L) h→fs.length=vs.length
 | [],[],_,_,_ =>rfl
 | _::fs,_::vs,L,_,⟨_,_,_,_,_,s⟩ =>by simp [avx s]
 | [],_::_,_,_,⟨_,_,_,_,hf,_⟩ =>hf.elim
 | _::_,[],_,_,⟨_,_,_,_,hf,_⟩ =>hf.elim
theorem aja {F:Type} {pc:F→Value→aad} {fs:List F} {vs:List Value} {B:Nat} {w:World} {A:aad} {L:List aad} (s:Sat B w (A::(fsS pc fs vs++L))):fs.length=vs.length:=by
 obtain ⟨h,_,k1,k2,_,_,_,hL⟩:=s
 exact avx hL
theorem Sat.pure {B:Nat} {w:World} {p:Prop} {L:List aad} (s:Sat B w (anV p::L)):p:=by
 obtain ⟨h,_,k1,k2,_,_,hA,_⟩:=s
 exact hA
theorem aDd {B:Nat} {w:World} {H:KT.H K} {X:List aad} {id o:Nat} {fs:List (Fd K.T K.M)} {f:Fd K.T K.M} (s:Sat B w (dH K ρ H++X)) (hg:get H id=some (.cells fs)) (hf:fs[o]?=some f) :
  ∃ vs v,vs[o]?=some v∧fs.length=vs.length∧Sat B w (pts (ρ.p id).1 (ρ.p id).2 vs::(fsS (fS K ρ) fs vs++(dH K ρ (del H id)++X)))∧w.cell? ⟨(ρ.p id).1,(ρ.p id).2+o,none⟩=some v:=by
 have s1:=s.imp (aaO (ρ:=ρ) hg)
 obtain ⟨vs,s2⟩:=ag3 s1
 have hl:=aja s2
 have ho:o<vs.length:=by rw [← hl]; exact (List.getElem?_eq_some_iff.1 hf).1
 exact ⟨vs,vs[o],List.getElem?_eq_getElem ho,hl,s2,(s2.cell (List.getElem?_eq_getElem ho)).2.1⟩
theorem ayL {B:Nat} {w:World} {A P:aad} {X Y L:List aad} (s:Sat B w (A::(X++L))) (p:X.Perm (P::Y)):Sat B w (P::A::(Y++L)) :=
 s.perm ((List.Perm.cons _ (p.append_right L)).trans (List.Perm.swap ..))
end
def Env.setP (ρ:Env) (n:Nat) (q:Nat×Nat):Env:={ ρ with p:=fun i =>if i=n then q else ρ.p i }
def Env.setS (ρ:Env) (n:Nat) (q:Sle):Env:={ ρ with s:=fun i =>if i=n then q else ρ.s i }
def Env.setV (ρ:Env) (n:Nat) (q:Value):Env:={ ρ with v:=fun i =>if i=n then q else ρ.v i }
theorem ah7 (ρ:Env) (n:Nat) (q:Nat×Nat):aay n ρ (ρ.setP n q):=fun k hk =>⟨by simp only [Env.setP]; rw [if_neg (by omega)],rfl,rfl⟩
theorem acj (ρ:Env) (n:Nat) (q:Sle):aay n ρ (ρ.setS n q):=fun k hk =>⟨rfl,by simp only [Env.setS]; rw [if_neg (by omega)],rfl⟩
theorem aj9 (ρ:Env) (n:Nat) (q:Value):aay n ρ (ρ.setV n q):=fun k hk =>⟨rfl,rfl,by simp only [Env.setV]; rw [if_neg (by omega)]⟩
section
variable {T:Nat→Type} {M:Type}
def opF (vw:(c:Nat)→T c→List (Fl T M)) (n:Nat):Fd T M→V×Option (Ch T M)
 | .v x =>(x,none)
 | .f (.i k x) =>(.i k x,none)
 | .f (.b x) =>(.b x,none)
 | .f (.c u) =>(aBg u,none)
 | .f (.own c x) =>(.ptr n 0,some (.cells ((vw c x).map .f)))
 | .f (.row c xs) =>(.sl n,some (.row c xs))
 | .f (.ro c xs) =>(.sl n,some (.ro c xs))
 | .f (.rr c xs) =>(.sl n,some (.rr c xs))
 | .f (.mach m) =>(.mc n,some (.mach m))
 | .f (.mp c ag m) =>(.mc n,some (.mp c ag m))
 | .f .o =>(.mc n,some (.any fun _ =>True))
end
section
variable {K:KT}
theorem apM (pc:Fl K.T K.M→Value→aad) (pc':Fd K.T K.M→Value→aad) (h:∀ x v,pc' (.f x) v=pc x v):∀ (l:List (Fl K.T K.M)) (vs:List Value),fsS pc' (l.map .f) vs=fsS pc l vs
 | [],[] =>rfl
 | f::fs,v::vs =>by simp only [List.map_cons,fsS,h,apM pc pc' h fs vs]
 | [],_::_ =>rfl
 | _::_,[] =>rfl
theorem aC5 (u:Value):ai4 (aBg u)=0:=by cases u<;>rfl
theorem azx {ρ:Env} {n:Nat} {f:Fd K.T K.M} {v:Value} {k:Hp} (hn:aDF f≤n) (h:fS K ρ f v k) :
  ∃ ρ',aay n ρ ρ'∧v=aau ρ' (opF K.vw n f).1∧(match (opF K.vw n f).2 with | none =>True | some c =>acg K ρ' n c k):=by
 cases f with
 | v x =>exact ⟨ρ,aay.refl _ _,h,trivial⟩
 | f x =>
  have h2:pcS K x v k:=h
  rw [aaI] at h2
  cases x with
  | i k x =>exact ⟨ρ,aay.refl _ _,h2,trivial⟩
  | b x =>exact ⟨ρ,aay.refl _ _,h2,trivial⟩
  | c u =>exact ⟨ρ,aay.refl _ _,by rw [opF,aix]; exact h2,trivial⟩
  | own c x =>
   obtain ⟨q,e,ho⟩:=h2
   refine ⟨ρ.setP n q,ah7 _ _ _,?_,?_⟩
   ·rw [e]; simp [opF,aau,Env.setP]
   ·rw [amU] at ho
    obtain ⟨vs,s⟩:=ho
    refine ⟨vs,?_⟩
    simp only [Env.setP,if_true]
    rw [apM (pcS K) _ (fun x v =>rfl)]
    exact s
  | row c xs =>
   obtain ⟨A,cap,e,ho⟩:=h2
   refine ⟨ρ.setS n ⟨A,xs.length,cap⟩,acj _ _ _,?_,?_,?_⟩
   ·rw [e]; simp [opF,aau,Env.setS]
   ·simp [Env.setS]
   ·simpa [Env.setS] using ho
  | ro c xs =>
   obtain ⟨A,cap,e,ho⟩:=h2
   refine ⟨ρ.setS n ⟨A,xs.length,cap⟩,acj _ _ _,?_,?_,?_⟩
   ·rw [e]; simp [opF,aau,Env.setS]
   ·simp [Env.setS]
   ·simpa [Env.setS] using ho
  | rr c xs =>
   obtain ⟨A,cap,e,ho⟩:=h2
   refine ⟨ρ.setS n ⟨A,xs.length,cap⟩,acj _ _ _,?_,?_,?_⟩
   ·rw [e]; simp [opF,aau,Env.setS]
   ·simp [Env.setS]
   ·simpa [Env.setS] using ho
  | mp c ag m =>
   refine ⟨ρ.setV n v,aj9 _ _ _,?_,?_⟩
   ·simp [opF,aau,Env.setV]
   ·simp only [opF,acg,Env.setV,if_true]
    exact h
  | mach m =>
   refine ⟨ρ.setV n v,aj9 _ _ _,?_,?_⟩
   ·simp [opF,aau,Env.setV]
   ·simp only [opF,acg,Env.setV,if_true]
    exact h
  | o =>exact ⟨ρ.setV n v,aj9 _ _ _,by simp [opF,aau,Env.setV],trivial⟩
theorem aig {n:Nat} {f:Fd K.T K.M} (hn:aDF f≤n):ai4 (opF K.vw n f).1≤n+1∧(∀ c,(opF K.vw n f).2=some c→av9 c≤n):=by
 cases f with
 | v x =>exact ⟨Nat.le_succ_of_le hn,fun c h =>by cases h⟩
 | f x =>
  cases x<;>refine ⟨?_,fun c h =>?_⟩<;>simp only [opF,ai4,aC5] at*<;> first | omega | (cases h; done) | (cases h; simp only [av9])<;>try omega
  ·rename_i c x
   have:∀ l:List (Fl K.T K.M),ak9 (l.map (Fd.f:Fl K.T K.M→Fd K.T K.M))=0:=fun l =>by
    induction l with
    | nil =>rfl
    | cons y l ih =>simp only [List.map_cons,ak9,ih,aDF]; rfl
   rw [this]; omega
end
end
end Go.Proofs.YtidhehdanppcoaaGreat
