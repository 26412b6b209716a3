/- Evaluation by itself,1: symbolic values,registers,operations on registers alone. No program occurs here. Evaluation by itself,2: operations on registers alone. No program occurs here. Objects that are owned; a range over a function whose rounds are told what lies at their argument. No program occurs here. What a call has made and hands back,held to be read: no program occurs here. What is held to be read by many; rows of things that hold a list of numbers; entailments in the world. No program occurs here. Rows of things each of which holds a list of numbers that is only read. No program occurs here. The reference's data: memories,records,frames,events; how they lie; words for what its functions answer. No program occurs here. Evaluation by itself,3: what lies in memory: fields,objects,rows. No program occurs here. Maps from numbers that a call owns. No program occurs here. Evaluation by itself,4: what is held,by numbers; fields opened; cells read and written. No program occurs here. -/
import Derived.Test.YtkmkhldmflebkaaGreatOzaa
import Derived.Laws.StructEq
import Derived.ChangeKeysEq
import Derived.RangeFuncFrom
import Derived.RangeFuncLeaves
import Derived.RangeFuncBound
import Derived.Maps.Keyed
set_option linter.all false
namespace Go.Proofs.YtkmkhldmflebkaaGreat
section
open Go Go.RowKit
structure Sle where
 a : Option Addr
 n : Nat
 c : Nat
structure Env where
 p : Nat → Nat × Nat
 s : Nat → Sle
 v : Nat → Value
inductive V where
 | i (k : IntKind) (x : Int)
 | l (k : IntKind) (x : Int)
 | p (P : Prop) (d : Decidable P)
 | b (x : Bool)
 | t (x : Bool)
 | c (v : Value)
 | ptr (id o : Nat)
 | sl (id : Nat)
 | vw (id o m c : Nat)
 | vs (id o : Nat) (k : Int) (c : Nat)
 | mc (id : Nat)
 | agg (l : List V)
 | tup (l : List V)
 | fn (f : FuncId) (l : List V)
 | bd (f : FuncId) (l : List V)
 | ifc (t : TypeId) (v : V)
mutual
def aar (ρ : Env) : V → Value
 | .i k x =>.int k x
 | .l k x =>.int k x
 | .p P d =>.bool (@decide P d)
 | .b x =>.bool x
 | .t x =>.bool x
 | .c v =>v
 | .ptr id o =>.pointer (some ⟨(ρ.p id).1,(ρ.p id).2 + o,none⟩)
 | .sl id =>.slice (ρ.s id).a (ρ.s id).n (ρ.s id).c
 | .vw id o m c =>.slice (some ⟨(ρ.p id).1,(ρ.p id).2 + o,none⟩) m c
 | .vs id o k c =>.slice (some ⟨(ρ.p id).1,(ρ.p id).2 + o,none⟩) k.toNat c
 | .mc id =>ρ.v id
 | .agg l =>.agg (aam ρ l).toArray
 | .tup l =>.tuple (aam ρ l).toArray
 | .fn f l =>.func (.func f) #[] (aam ρ l).toArray
 | .bd f l =>.func (.func f) (aam ρ l).toArray #[]
 | .ifc t v =>.iface t (aar ρ v)
termination_by structural v =>v
def aam (ρ : Env) : List V → List Value
 | [] =>[]
 | v :: l =>aar ρ v :: aam ρ l
termination_by structural l =>l
end
def acF {α : Type} (n : Nat) (k : Nat → α) : α := match n with
 | 0 =>k 0
 | m + 1 =>k (m + 1)
theorem ab4 {α : Type} (n : Nat) (k : Nat → α) : acF n k = k n := by cases n <;> rfl
def mx (a b : Nat) : Nat := acF a fun a =>acF b fun b =>Nat.max a b
theorem awk (a b : Nat) : mx a b = Nat.max a b := by unfold mx; rw [ab4,ab4]
theorem axg {a b : Nat} : a ≤ mx a b := by rw [awk]; exact Nat.le_max_left ..
theorem au6 {a b : Nat} : b ≤ mx a b := by rw [awk]; exact Nat.le_max_right ..
theorem ajk {a b n : Nat} (h : a ≤ n ∧ b ≤ n) : mx a b ≤ n := by rw [awk]; exact Nat.max_le.2 h
mutual
def aeW : V → Nat
 | .ptr id _ =>id + 1
 | .sl id =>id + 1
 | .vw id _ _ _ =>id + 1
 | .vs id _ _ _ =>id + 1
 | .mc id =>id + 1
 | .agg l =>aem l
 | .tup l =>aem l
 | .fn _ l =>aem l
 | .bd _ l =>aem l
 | .ifc _ v =>aeW v
 | _ =>0
termination_by structural v =>v
def aem : List V → Nat
 | [] =>0
 | v :: l =>mx (aeW v) (aem l)
termination_by structural l =>l
end
example (x : Int) : aem [.agg [.ptr 3 0,.i .i64 x]] = 4 := rfl
example (x : Int) : aem [.agg [.ptr 3 0,.i .i64 x]] = 4 := by kernel_rfl
def aau (n : Nat) (ρ ρ' : Env) : Prop := ∀ k,k < n → ρ.p k = ρ'.p k ∧ ρ.s k = ρ'.s k ∧ ρ.v k = ρ'.v k
theorem aau.refl (n : Nat) (ρ : Env) : aau n ρ ρ := fun _ _ =>⟨rfl,rfl,rfl⟩
theorem aau.trans {n m : Nat} {ρ ρ' ρ'' : Env} (h : aau n ρ ρ') (h' : aau m ρ' ρ'') (hle : n ≤ m) : aau n ρ ρ'' := fun k hk =>⟨(h k hk).1.trans (h' k (by omega)).1,(h k hk).2.1.trans (h' k (by omega)).2.1,(h k hk).2.2.trans (h' k (by omega)).2.2⟩
theorem aau.le {n m : Nat} {ρ ρ' : Env} (h : aau n ρ ρ') (hle : m ≤ n) : aau m ρ ρ' := fun k hk =>h k (by omega)
mutual
theorem aa5 {ρ ρ' : Env} {n : Nat} (h : aau n ρ ρ') : ∀ v : V,aeW v ≤ n → aar ρ v = aar ρ' v
 | .i ..,_ =>by simp only [aar]
 | .l ..,_ =>by simp only [aar]
 | .p ..,_ =>by simp only [aar]
 | .b ..,_ =>by simp only [aar]
 | .t ..,_ =>by simp only [aar]
 | .c ..,_ =>by simp only [aar]
 | .ptr id o,hn =>by simp only [aeW] at hn; simp only [aar,(h id (by omega)).1]
 | .sl id,hn =>by simp only [aeW] at hn; simp only [aar,(h id (by omega)).2.1]
 | .vw id o m c,hn =>by simp only [aeW] at hn; simp only [aar,(h id (by omega)).1]
 | .vs id o k c,hn =>by simp only [aeW] at hn; simp only [aar,(h id (by omega)).1]
 | .mc id,hn =>by simp only [aeW] at hn; simp only [aar,(h id (by omega)).2.2]
 | .agg l,hn =>by simp only [aeW] at hn; simp only [aar,acf h l hn]
 | .tup l,hn =>by simp only [aeW] at hn; simp only [aar,acf h l hn]
 | .fn f l,hn =>by simp only [aeW] at hn; simp only [aar,acf h l hn]
 | .bd f l,hn =>by simp only [aeW] at hn; simp only [aar,acf h l hn]
 | .ifc t v,hn =>by simp only [aeW] at hn; simp only [aar,aa5 h v hn]
theorem acf {ρ ρ' : Env} {n : Nat} (h : aau n ρ ρ') : ∀ l : List V,aem l ≤ n → aam ρ l = aam ρ' l
 | [],_ =>by simp only [aam]
 | v :: l,hn =>by
  simp only [aem] at hn
  have h1 : aeW v ≤ n := Nat.le_trans axg hn
  have h2 : aem l ≤ n := Nat.le_trans au6 hn
  simp only [aam,aa5 h v h1,acf h l h2]
end
theorem aaH {ρ : Env} (l : List V) : aam ρ l = l.map (aar ρ) := by
 induction l with
 | nil =>rfl
 | cons v l ih =>rw [aam,ih]; rfl
theorem agX {ρ : Env} (l m : List V) : aam ρ (l ++ m) = aam ρ l ++ aam ρ m := by simp [aaH]
abbrev aaO := List (Nat × V)
def get {α : Type} : List (Nat × α) → Nat → Option α
 | [],_ =>none
 | (t,v) :: R,k =>match Nat.beq t k with
  | true =>some v
  | false =>get R k
def del {α : Type} : List (Nat × α) → Nat → List (Nat × α)
 | [],_ =>[]
 | (t,v) :: R,k =>match Nat.beq t k with
  | true =>del R k
  | false =>(t,v) :: del R k
theorem anv {α : Type} {k : Nat} {v : α} : ∀ {R : List (Nat × α)},get R k = some v → (k,v) ∈ R
 | [],h =>by cases h
 | (t,u) :: R,h =>by
  unfold get at h
  split at h
  ·rename_i e
   have e' : t = k := Nat.eq_of_beq_eq_true e
   simp only [Option.some.injEq] at h
   subst e' h
   exact List.mem_cons_self ..
  ·exact List.mem_cons_of_mem _ (anv h)
theorem aeF {α : Type} {k : Nat} {p : Nat × α} : ∀ {R : List (Nat × α)},p ∈ del R k → p ∈ R ∧ p.1 ≠ k
 | [],h =>by cases h
 | (t,u) :: R,h =>by
  unfold del at h
  split at h
  ·exact ⟨List.mem_cons_of_mem _ (aeF h).1,(aeF h).2⟩
  ·rename_i e
   rcases List.mem_cons.1 h with h | h
   ·subst h
    refine ⟨List.mem_cons_self ..,fun h =>?_⟩
    simp only at h
    subst h
    have : Nat.beq t t = true := Nat.beq_refl t
    rw [e] at this; cases this
   ·exact ⟨List.mem_cons_of_mem _ (aeF h).1,(aeF h).2⟩
def dR (ρ : Env) (R : aaO) : abX := R.map fun p =>(p.1,aar ρ p.2)
theorem af3 {ρ : Env} {R : aaO} {k : Nat} {v : V} (h : get R k = some v) : (k,aar ρ v) ∈ dR ρ R := List.mem_map.2 ⟨_,anv h,rfl⟩
def an2 : aaO → Nat
 | [] =>0
 | p :: R =>mx (aeW p.2) (an2 R)
theorem abd {ρ ρ' : Env} {n : Nat} (h : aau n ρ ρ') : ∀ R : aaO,an2 R ≤ n → dR ρ R = dR ρ' R
 | [],_ =>rfl
 | p :: R,hn =>by
  simp only [an2] at hn
  have h1 : aeW p.2 ≤ n := Nat.le_trans axg hn
  have h2 : an2 R ≤ n := Nat.le_trans au6 hn
  show (p.1,aar ρ p.2) :: dR ρ R = (p.1,aar ρ' p.2) :: dR ρ' R
  rw [abd h R h2,aa5 h _ h1]
def akG (R : aaO) : Option Tmp → V → aaO
 | none,_ =>R
 | some d,v =>(d,v) :: del R d
def av3 (n : Nat) : Option Tmp → Bool
 | none =>true
 | some d =>Nat.blt d n
theorem ac3 {n : Nat} {ρ : Env} {R : aaO} {d : Option Tmp} {v : V} (h : av3 n d = true) : Put n (dR ρ R) d (aar ρ v) (dR ρ (akG R d v)) := by
 cases d with
 | none =>exact atN
 | some d =>
  intro a r
  have hd : d < n := Nat.le_of_ble_eq_true h
  refine av2 (R := dR ρ (del R d)) ?_ a (r.sub fun p hp =>?_)
  ·unfold ajV
   simp only [Bool.and_eq_true,List.all_eq_true]
   refine ⟨h,fun p hp =>?_⟩
   obtain ⟨q,hq,rfl⟩ := List.mem_map.1 hp
   simpa using (aeF hq).2
  ·obtain ⟨q,hq,rfl⟩ := List.mem_map.1 hp
   exact List.mem_map.2 ⟨q,(aeF hq).1,rfl⟩
def as0 : Value → V
 | .int k x =>.l k x
 | .bool x =>.t x
 | v =>.c v
theorem aeG (ρ : Env) (v : Value) : aar ρ (as0 v) = v := by cases v <;> rfl
def evO (R : aaO) : Operand → Option V
 | .tmp t =>get R t
 | .const v =>some (as0 v)
 | .func f =>some (.fn f [])
 | .global _ =>none
theorem aaA {ρ : Env} {R : aaO} {x : Operand} {v : V} (h : evO R x = some v) : EvalR (dR ρ R) x (aar ρ v) := by
 cases x with
 | tmp t =>exact .tmp (af3 h)
 | const u =>cases h; rw [aeG]; exact .const
 | func f =>cases h; exact .func
 | global g =>cases h
def auq (R : aaO) : List Operand → Option (List V)
 | [] =>some []
 | x :: xs =>match evO R x with
  | some v =>match auq R xs with
   | some vs =>some (v :: vs)
   | none =>none
  | none =>none
theorem agl {ρ : Env} {R : aaO} : ∀ {xs : List Operand} {vs : List V},auq R xs = some vs → EvalRs (dR ρ R) xs (aam ρ vs)
 | [],vs,h =>by cases h; exact .nil
 | x :: xs,vs,h =>by
  unfold auq at h
  split at h
  ·rename_i v hv
   split at h
   ·rename_i us hu
    cases h
    exact .cons (aaA hv) (agl hu)
   ·cases h
  ·cases h
structure Gd where
 P : Prop
 d : Decidable P
def gds {α : Type} : List Gd → Option α → Option α
 | [],k =>k
 | g :: l,k =>@ite _ g.P g.d (gds l k) none
theorem af1 {α : Type} {k : Option α} {o : α} : ∀ {l : List Gd},gds l k = some o → (∀ g ∈ l,g.P) ∧ k = some o
 | [],h =>⟨(by simp),h⟩
 | g :: l,h =>by
  unfold gds at h
  have := g.d
  by_cases hg : g.P
  ·rw [if_pos hg] at h
   obtain ⟨h1,h2⟩ := af1 h
   exact ⟨fun x hx =>(List.mem_cons.1 hx).elim (fun e =>e ▸ hg) (h1 x),h2⟩
  ·rw [if_neg hg] at h; cases h
def afP : V → Option (IntKind × Int × Bool)
 | .i k x =>some (k,x,false)
 | .l k x =>some (k,x,true)
 | _ =>none
theorem aey {ρ : Env} {v : V} {k : IntKind} {x : Int} {l : Bool} (h : afP v = some (k,x,l)) : aar ρ v = .int k x := by
 cases v <;> simp [afP] at h <;> obtain ⟨rfl,rfl,_⟩ := h <;> rfl
def alB : IntKind → IntKind → Bool
 | .i64,.i64 =>true
 | .u64,.u64 =>true
 | .u8,.u8 =>true
 | .u16,.u16 =>true
 | .i32,.i32 =>true
 | _,_ =>false
theorem aeo {k k' : IntKind} (h : alB k k' = true) : k = k' := by cases k <;> cases k' <;> first | rfl | cases h
def mkI (l : Bool) (k : IntKind) (x : Int) : V := match l with
 | true =>.l k x
 | false =>.i k x
theorem acD {ρ : Env} {l : Bool} {k : IntKind} {x : Int} : aar ρ (mkI l k x) = .int k x := by cases l <;> rfl
def mkP (l : Bool) (P : Prop) (d : Decidable P) : V := match l with
 | true =>.t (@decide P d)
 | false =>.p P d
theorem ahu {ρ : Env} {l : Bool} {P : Prop} {d : Decidable P} : aar ρ (mkP l P d) = .bool (@decide P d) := by cases l <;> rfl
def nzL : Int → Bool
 | .ofNat 0 =>false
 | _ =>true
def nnL : Int → Bool
 | .ofNat _ =>true
 | _ =>false
theorem ax8 {b : Int} (h : nzL b = true) : b ≠ 0 := by
 intro e; subst e; cases h
theorem aiK {b : Int} (h : nnL b = true) : 0 ≤ b := by
 cases b with
 | ofNat n =>exact Int.natCast_nonneg n
 | negSucc n =>cases h
def nzG (l : Bool) (b : Int) : Option (List Gd) := match l with
 | true =>match nzL b with
  | true =>some []
  | false =>none
 | false =>some [⟨b ≠ 0,inferInstance⟩]
theorem au1 {l : Bool} {b : Int} {gs : List Gd} (h : nzG l b = some gs) (hg : ∀ g ∈ gs,g.P) : b ≠ 0 := by
 unfold nzG at h
 cases l with
 | true =>
  simp only at h
  split at h
  ·rename_i e; exact ax8 e
  ·cases h
 | false =>cases h; exact hg _ (List.mem_singleton.2 rfl)
def nnG (l : Bool) (b : Int) : Option (List Gd) := match l with
 | true =>match nnL b with
  | true =>some []
  | false =>none
 | false =>some [⟨0 ≤ b,inferInstance⟩]
theorem au2 {l : Bool} {b : Int} {gs : List Gd} (h : nnG l b = some gs) (hg : ∀ g ∈ gs,g.P) : 0 ≤ b := by
 unfold nnG at h
 cases l with
 | true =>
  simp only at h
  split at h
  ·rename_i e; exact aiK e
  ·cases h
 | false =>cases h; exact hg _ (List.mem_singleton.2 rfl)
def biI (op : BinOp) (k : IntKind) (a b : Int) (l lb : Bool) : Option (List Gd × V) :=
 match op with
 | .add =>some ([],mkI l k (k.wrap (a + b)))
 | .sub =>some ([],mkI l k (k.wrap (a - b)))
 | .mul =>some ([],mkI l k (k.wrap (a * b)))
 | .quo =>(nzG lb b).map fun g =>(g,mkI l k (k.wrap (a.tdiv b)))
 | .rem =>(nzG lb b).map fun g =>(g,mkI l k (a.tmod b))
 | .and =>some ([],mkI l k (k.wrap (BitVec.ofInt k.bits a &&& BitVec.ofInt k.bits b).toNat))
 | .or =>some ([],mkI l k (k.wrap (BitVec.ofInt k.bits a ||| BitVec.ofInt k.bits b).toNat))
 | .xor =>some ([],mkI l k (k.wrap (BitVec.ofInt k.bits a ^^^ BitVec.ofInt k.bits b).toNat))
 | .andNot =>some ([],mkI l k (k.wrap (BitVec.ofInt k.bits a &&& ~~~ BitVec.ofInt k.bits b).toNat))
 | .lss =>some ([],mkP l (a < b) inferInstance)
 | .leq =>some ([],mkP l (a ≤ b) inferInstance)
 | .gtr =>some ([],mkP l (b < a) inferInstance)
 | .geq =>some ([],mkP l (b ≤ a) inferInstance)
 | .eql =>some ([],mkP l (a = b) inferInstance)
 | .neq =>some ([],mkP l (a ≠ b) inferInstance)
 | _ =>none
def shI (op : BinOp) (k : IntKind) (a b : Int) (l lb : Bool) : Option (List Gd × V) :=
 match op with
 | .shl =>(nnG lb b).map fun g =>(g,mkI l k (k.wrap (a * 2 ^ min b.toNat k.bits)))
 | .shr =>(nnG lb b).map fun g =>(g,mkI l k (a.fdiv (2 ^ min b.toNat k.bits)))
 | _ =>none
def aAA : BinOp → Bool
 | .shl =>true
 | .shr =>true
 | _ =>false
def amz : V → Option Bool
 | .p P d =>some (@decide P d)
 | .b x =>some x
 | .t x =>some x
 | _ =>none
theorem ag4 {ρ : Env} {v : V} {x : Bool} (h : amz v = some x) : aar ρ v = .bool x := by
 cases v <;> simp [amz] at h <;> subst h <;> rfl
def ayK (P : Program) (T : TypeId) : Bool := match P.underlying T with
 | some .bool =>true
 | _ =>false
def adM (P : Program) (T : TypeId) : Option TypeId := match P.underlying T with
 | some (.slice E) =>some E
 | _ =>none
theorem abr {P : Program} {T E : TypeId} (h : adM P T = some E) : P.underlying T = some (.slice E) := by
 unfold adM at h; split at h
 ·cases h; assumption
 ·cases h
def ayn (P : Program) (T : TypeId) : Option IntKind := match P.underlying T with
 | some (.int k) =>some k
 | _ =>none
theorem aoJ {P : Program} {T : TypeId} {k : IntKind} (h : ayn P T = some k) : P.underlying T = some (.int k) := by
 unfold ayn at h; split at h
 ·cases h; assumption
 ·cases h
def ayY (P : Program) (T : TypeId) (a b : V) : Option Gd :=
 match P.underlying T with
 | some (.int _) =>match afP a with
  | some (k,n,_) =>match afP b with
   | some (k',m,_) =>match alB k k' with
    | true =>some ⟨n = m,inferInstance⟩
    | false =>none
   | none =>none
  | none =>none
 | some .bool =>match amz a with
  | some x =>match amz b with
   | some y =>some ⟨x = y,inferInstance⟩
   | none =>none
  | none =>none
 | _ =>none
def axm (g h : Gd) : Gd := ⟨g.P ∧ h.P,@instDecidableAnd _ _ g.d h.d⟩
def ay1 (P : Program) (rec : TypeId → List V → List V → Option Gd) (xs ys : List V) : List Field → Option Gd
 | [] =>some ⟨True,inferInstance⟩
 | f :: fs =>match decide (f.name = "_") with
  | true =>none
  | false =>match ay1 P rec xs ys fs with
   | some h =>match P.underlying f.type with
    | some (.struct _) =>match P.info? f.type with
     | some _ =>match rec f.type ((xs.drop f.offset).take (P.cellsOf f.type)) ((ys.drop f.offset).take (P.cellsOf f.type)) with
      | some g =>some (axm g h)
      | none =>none
     | none =>none
    | _ =>match xs[f.offset]? with
     | some a =>match ys[f.offset]? with
      | some b =>match ayY P f.type a b with
       | some g =>some (axm g h)
       | none =>none
      | none =>none
     | none =>none
   | none =>none
def ayz (P : Program) : Nat → TypeId → List V → List V → Option Gd
 | 0,_,_,_ =>none
 | d + 1,T,xs,ys =>match P.underlying T with
  | some (.struct _) =>match P.stoodInHeld T with
   | true =>none
   | false =>ay1 P (ayz P d) xs ys (P.fieldsOf T).toList
  | _ =>none
section
variable {P : Program} {ρ : Env}
theorem awQ {T : TypeId} {a b : V} {g : Gd} (h : ayY P T a b = some g) (d : Nat) (w : World) : (Op.equalIn (d + 1) T (aar ρ a) (aar ρ b)).run P w = .ok (@decide g.P g.d) w := by
 unfold ayY at h
 split at h
 ·rename_i k0 hT
  split at h
  ·rename_i k n _ ha
   split at h
   ·rename_i k' m _ hb
    split at h
    ·rename_i hk
     cases h
     obtain rfl := aeo hk
     rw [aey ha,aey hb]
     have e : (n == m) = decide (n = m) := by by_cases hh : n = m <;> simp [hh]
     simp [run_equalIn_int w d T k k0 n m hT,e]
    ·cases h
   ·cases h
  ·cases h
 ·rename_i hT
  split at h
  ·rename_i x ha
   split at h
   ·rename_i y hb
    cases h
    rw [ag4 ha,ag4 hb]
    have e : (x == y) = decide (x = y) := by cases x <;> cases y <;> rfl
    simp [run_equalIn_bool' w d T x y hT,e]
   ·cases h
  ·cases h
 ·cases h
theorem amv {l : List V} {i : Nat} {v : V} (h : l[i]? = some v) : (aam ρ l).toArray[i]? = some (aar ρ v) := by
 rw [aaH]; simp [h]
theorem alq (l : List V) (o k : Nat) : List.take k (List.drop o (aam ρ l)) = aam ρ ((l.drop o).take k) := by rw [aaH,aaH,List.map_take,List.map_drop]
theorem asg {rec : TypeId → List V → List V → Option Gd} {D : Nat} (hD : 0 < D) (hr : ∀ T xs ys g,rec T xs ys = some g → ∀ w,(Op.equalIn D T (.agg (aam ρ xs).toArray) (.agg (aam ρ ys).toArray)).run P w = .ok (@decide g.P g.d) w) {xs ys : List V} :
  ∀ {fs : List Field} {g : Gd},ay1 P rec xs ys fs = some g → ∀ w,(Op.eqFields D (aam ρ xs).toArray (aam ρ ys).toArray fs).run P w = .ok (@decide g.P g.d) w
 | [],g,h,w =>by cases h; simp [Op.eqFields]
 | f :: fs,g,h,w =>by
  obtain ⟨D,rfl⟩ : ∃ D',D = D' + 1 := ⟨D - 1,by omega⟩
  have fin : ∀ {g0 g1 : Gd} {a b : Value},f.name ≠ "_" → (part f.type (aam ρ xs).toArray f.offset).run P w = .ok a w → (part f.type (aam ρ ys).toArray f.offset).run P w = .ok b w → (Op.equalIn (D + 1) f.type a b).run P w = .ok (@decide g0.P g0.d) w →
    (Op.eqFields (D + 1) (aam ρ xs).toArray (aam ρ ys).toArray fs).run P w = .ok (@decide g1.P g1.d) w → (Op.eqFields (D + 1) (aam ρ xs).toArray (aam ρ ys).toArray (f :: fs)).run P w = .ok (@decide (axm g0 g1).P (axm g0 g1).d) w := by
   intro g0 g1 a b hn h1 h2 h3 h4
   simp only [Op.eqFields]
   rw [if_pos hn]
   simp only [Sem.run_bind,h1,h2,h3,Result.andThen_ok]
   have := g0.d
   have := g1.d
   by_cases hp : g0.P
   ·simp [hp,h4,axm]
   ·simp [hp,axm]
  unfold ay1 at h
  split at h
  ·cases h
  ·rename_i hn
   have hn' : f.name ≠ "_" := by simpa using hn
   split at h
   ·rename_i g1 h1
    have ih := asg hD hr h1 w
    split at h
    ·rename_i hu
     split at h
     ·rename_i i hi
      split at h
      ·rename_i g0 h0
       cases h
       have hp : ∀ l : List V,(part f.type (aam ρ l).toArray f.offset).run P w = .ok (.agg (aam ρ ((l.drop f.offset).take (P.cellsOf f.type))).toArray) w := fun l =>by
        simp [part,isAgg,run_underlying hu,run_sizeOf w hi,alq]
       exact fin hn' (hp xs) (hp ys) (hr _ _ _ _ h0 w) ih
      ·cases h
     ·cases h
    ·rename_i hu
     split at h
     ·rename_i a ha
      split at h
      ·rename_i b hb
       split at h
       ·rename_i g0 h0
        cases h
        have hk : P.plainKey f.type = true := by
         unfold ayY at h0
         unfold Program.plainKey
         split at h0
         ·rename_i hT; rw [hT]
         ·rename_i hT; rw [hT]
         ·cases h0
        exact fin hn' (run_part_plain w hk (amv ha)) (run_part_plain w hk (amv hb)) (awQ h0 D w) ih
       ·cases h
      ·cases h
     ·cases h
   ·cases h
theorem anz : ∀ {d : Nat} {T : TypeId} {xs ys : List V} {g : Gd},ayz P d T xs ys = some g → ∀ (D : Nat),d < D → ∀ w,(Op.equalIn D T (.agg (aam ρ xs).toArray) (.agg (aam ρ ys).toArray)).run P w = .ok (@decide g.P g.d) w
 | 0,_,_,_,_,h,_,_,_ =>by cases h
 | d + 1,T,xs,ys,g,h,D,hD,w =>by
  obtain ⟨D,rfl⟩ : ∃ D',D = D' + 1 := ⟨D - 1,by omega⟩
  unfold ayz at h
  split at h
  ·rename_i fs hu
   split at h
   ·cases h
   ·rename_i hs
    rw [run_equalIn_struct w D T _ _ (by unfold Program.fieldsOf; rw [hu]) hs]
    exact asg (by omega) (fun T xs ys g h w =>anz h D (by omega) w) h w
  ·cases h
end
def biV (P : Program) (op : BinOp) (T : TypeId) (x y : V) : Option (List Gd × V) :=
 match afP x with
 | some (k,a,l) =>match afP y with
  | some (k',b,l') =>match aAA op with
   | true =>shI op k a b (l && l') l'
   | false =>match alB k k' with
    | true =>biI op k a b (l && l') l'
    | false =>none
  | none =>none
 | none =>match ayK P T with
  | true =>match amz x with
   | some a =>match amz y with
    | some b =>match op with
     | .eql =>some ([],.p (a = b) inferInstance)
     | .neq =>some ([],.p (a ≠ b) inferInstance)
     | _ =>none
    | none =>none
   | none =>none
  | false =>match x with
   | .agg xs =>match y with
    | .agg ys =>match P.eqGuardType P.depth T with
     | true =>none
     | false =>match op with
      | .eql =>(ayz P 5 T xs ys).map fun g =>([],.p g.P g.d)
      | .neq =>(ayz P 5 T xs ys).map fun g =>([],.p (¬ g.P) (@instDecidableNot _ g.d))
      | _ =>none
    | _ =>none
   | _ =>none
def unV (op : UnOp) (x : V) : Option V :=
 match op with
 | .not =>match x with
  | .p P d =>some (.p (¬ P) inferInstance)
  | .b x =>some (.b (!x))
  | .t x =>some (.t (!x))
  | _ =>none
 | .neg =>match afP x with
  | some (k,a,l) =>some (mkI l k (k.wrap (0 - a)))
  | none =>none
 | .xor =>match afP x with
  | some (k,a,l) =>some (mkI l k (k.wrap (BitVec.ofInt k.bits (if k.signed then -1 else k.max) ^^^ BitVec.ofInt k.bits a).toNat))
  | none =>none
 | _ =>none
def ayi (L : Nat → Option Nat) : V → Option V
 | .sl id =>match L id with
  | some n =>some (.i .i64 ((n : Nat) : Int))
  | none =>none
 | .c (.slice none 0 0) =>some (.l .i64 0)
 | .vw _ _ m _ =>some (.l .i64 ((m : Nat) : Int))
 | .vs _ _ k _ =>some (.i .i64 ((k.toNat : Nat) : Int))
 | _ =>none
def buV (P : Program) (L : Nat → Option Nat) (R : aaO) (bu : Builtin) (xs : List Operand) (ts : List TypeId) : Option (List Gd × V) :=
 match bu with
 | .len =>match xs,ts with
  | [x],[T] =>match adM P T with
   | some _ =>match evO R x with
    | some v =>(ayi L v).map fun v =>([],v)
    | none =>none
   | none =>none
  | _,_ =>none
 | .min =>match xs with
  | [x,y] =>match evO R x with
   | some a =>match evO R y with
    | some b =>match afP a with
     | some (k,n,l) =>match afP b with
      | some (_,m,l') =>some ([],mkI (l && l') k (if m < n then m else n))
      | none =>none
     | none =>none
    | none =>none
   | none =>none
  | _ =>none
 | .max =>match xs with
  | [x,y] =>match evO R x with
   | some a =>match evO R y with
    | some b =>match afP a with
     | some (k,n,l) =>match afP b with
      | some (_,m,l') =>some ([],mkI (l && l') k (if n < m then m else n))
      | none =>none
     | none =>none
    | none =>none
   | none =>none
  | _ =>none
 | _ =>none
def evP (P : Program) (L : Nat → Option Nat) (R : aaO) (op : Op) : Option (List Gd × V) :=
 match op with
 | .move x =>(evO R x).map fun v =>([],v)
 | .assign x =>(evO R x).map fun v =>([],v)
 | .nilCheck x =>match evO R x with
  | some (.ptr id o) =>some ([],.ptr id o)
  | some (.ifc t v) =>some ([],.ifc t v)
  | _ =>none
 | .pick c x y =>match evO R c with
  | some (.t b) =>(evO R (match b with | true =>x | false =>y)).map fun v =>([],v)
  | _ =>none
 | .binOp op T x y _ =>match evO R x with
  | some a =>match evO R y with
   | some b =>biV P op T a b
   | none =>none
  | none =>none
 | .unOp op _ x =>match evO R x with
  | some a =>(unV op a).map fun v =>([],v)
  | none =>none
 | .convert T T' x =>match evO R x with
  | some a =>match afP a with
   | some (_,n,l) =>match ayn P T with
    | some _ =>match ayn P T' with
     | some k' =>some ([],mkI l k' (k'.wrap n))
     | none =>none
    | none =>none
   | none =>none
  | none =>none
 | .extract x i =>match evO R x with
  | some (.tup l) =>(l[i]?).map fun v =>([],v)
  | _ =>none
 | .fieldAddr T x f =>match evO R x with
  | some (.ptr id o) =>(akY P T f).map fun k =>([],.ptr id (o + k))
  | _ =>none
 | .call c =>match c.callee with
  | .builtin b =>buV P L R b c.args.toList c.argTypes.toList
  | _ =>none
 | .makeFunc (.func f) first captured =>match first.isEmpty with
  | true =>(auq R captured.toList).map fun l =>([],.fn f l)
  | false =>match captured.isEmpty with
   | true =>(auq R first.toList).map fun l =>([],.bd f l)
   | false =>none
 | _ =>none
section
variable {P : Program} {n : Nat} {ρ : Env} {R : aaO}
theorem abt {x : Operand} {v : V} {k : IntKind} {a : Int} {l : Bool} (h : evO R x = some v) (hv : afP v = some (k,a,l)) : EvalR (dR ρ R) x (.int k a) := aey (ρ := ρ) hv ▸ aaA h
theorem aij {x : Operand} {v : V} {b : Bool} (h : evO R x = some v) (hv : amz v = some b) : EvalR (dR ρ R) x (.bool b) := ag4 (ρ := ρ) hv ▸ aaA h
theorem ayM {d : Option Tmp} {ty : TypeId} {ps : String} {af : Array Edge} {g : Option (Nat × Bool)} {T T' : TypeId} {op : BinOp} {x y : Operand} {k : IntKind} {a b : Int} {l lb : Bool} {gs : List Gd} {v : V}
  (h : biI op k a b l lb = some (gs,v)) (hg : ∀ g ∈ gs,g.P) (hx : EvalR (dR ρ R) x (.int k a)) (hy : EvalR (dR ρ R) y (.int k b)) : OP P n ⟨d,.binOp op T x y T',ty,ps,af,g⟩ (dR ρ R) (aar ρ v) := by
 cases op <;> simp only [biI,Option.some.injEq,Prod.mk.injEq,Option.map_eq_some_iff,reduceCtorEq] at h
 case add =>obtain ⟨rfl,rfl⟩ := h; rw [acD]; exact ax7 hx hy rfl
 case sub =>obtain ⟨rfl,rfl⟩ := h; rw [acD]; exact axO hx hy rfl
 case mul =>obtain ⟨rfl,rfl⟩ := h; rw [acD]; exact axW hx hy rfl
 case quo =>obtain ⟨_,h1,rfl,rfl⟩ := h; rw [acD]; exact axS hx hy (au1 h1 hg) rfl
 case rem =>obtain ⟨_,h1,rfl,rfl⟩ := h; rw [acD]; exact axR hx hy (au1 h1 hg) rfl
 case and =>obtain ⟨rfl,rfl⟩ := h; rw [acD]; exact ax6 hx hy rfl
 case or =>obtain ⟨rfl,rfl⟩ := h; rw [acD]; exact azk hx hy rfl
 case xor =>obtain ⟨rfl,rfl⟩ := h; rw [acD]; exact axN hx hy rfl
 case andNot =>obtain ⟨rfl,rfl⟩ := h; rw [acD]; exact arw hx hy rfl
 case lss =>obtain ⟨rfl,rfl⟩ := h; rw [ahu]; exact axZ hx hy
 case leq =>obtain ⟨rfl,rfl⟩ := h; rw [ahu]; exact ax0 hx hy
 case gtr =>obtain ⟨rfl,rfl⟩ := h; rw [ahu]; exact ax1 hx hy
 case geq =>obtain ⟨rfl,rfl⟩ := h; rw [ahu]; exact ax2 hx hy
 case eql =>obtain ⟨rfl,rfl⟩ := h; rw [ahu]; exact ax3 hx hy
 case neq =>obtain ⟨rfl,rfl⟩ := h; rw [ahu]; exact axU hx hy
theorem ayL {d : Option Tmp} {ty : TypeId} {ps : String} {af : Array Edge} {g : Option (Nat × Bool)} {T T' : TypeId} {op : BinOp} {x y : Operand} {u w v : V} {gs : List Gd}
  (h : biV P op T u w = some (gs,v)) (hg : ∀ g ∈ gs,g.P) (hx : evO R x = some u) (hy : evO R y = some w) : OP P n ⟨d,.binOp op T x y T',ty,ps,af,g⟩ (dR ρ R) (aar ρ v) := by
 unfold biV at h
 split at h
 ·rename_i k a l hu
  split at h
  ·rename_i k' b l' hw
   split at h
   ·cases op <;> simp only [shI,Option.map_eq_some_iff,Prod.mk.injEq,reduceCtorEq] at h
    case shl =>obtain ⟨_,h1,rfl,rfl⟩ := h; rw [acD]; exact axQ (abt hx hu) (abt hy hw) (au2 h1 hg) rfl
    case shr =>obtain ⟨_,h1,rfl,rfl⟩ := h; rw [acD]; exact axP (abt hx hu) (abt hy hw) (au2 h1 hg) rfl
   ·split at h
    ·rename_i hk
     obtain rfl := aeo hk
     exact ayM h hg (abt hx hu) (abt hy hw)
    ·cases h
  ·cases h
 ·split at h
  ·rename_i hT
   have hT' : P.underlying T = some .bool := by
    unfold ayK at hT; split at hT
    ·assumption
    ·cases hT
   split at h
   ·rename_i a ha
    split at h
    ·rename_i b hb
     split at h
     ·cases h; exact ax4 hT' (aij hx ha) (aij hy hb)
     ·cases h; exact av9 hT' (aij hx ha) (aij hy hb)
     ·cases h
    ·cases h
   ·cases h
  ·split at h
   ·rename_i xs
    split at h
    ·rename_i ys
     split at h
     ·cases h
     ·rename_i hm
      split at h
      ·simp only [Option.map_eq_some_iff,Prod.mk.injEq] at h
       obtain ⟨g0,h0,rfl,rfl⟩ := h
       intro a w s
       simp only [execOp,(aaA (ρ := ρ) hx).eval s,(aaA (ρ := ρ) hy).eval s,aar]
       rw [aaa (aaa (run_eqGuard_agg _ _ _ _ _ _ _ hm) |>.trans (by rw [run_eql_struct,anz h0 10000 (by omega) w]; rfl))]
       rfl
      ·simp only [Option.map_eq_some_iff,Prod.mk.injEq] at h
       obtain ⟨g0,h0,rfl,rfl⟩ := h
       intro a w s
       simp only [execOp,(aaA (ρ := ρ) hx).eval s,(aaA (ρ := ρ) hy).eval s,aar]
       rw [aaa (aaa (run_eqGuard_agg _ _ _ _ _ _ _ hm) |>.trans (by rw [run_neq_struct,anz h0 10000 (by omega) w]; rfl))]
       have := g0.d
       by_cases hp : g0.P <;> simp [hp]
      ·cases h
    ·cases h
   ·cases h
theorem axr {d : Option Tmp} {ty : TypeId} {ps : String} {af : Array Edge} {g : Option (Nat × Bool)} {T : TypeId} {op : UnOp} {x : Operand} {u v : V} (h : unV op u = some v) (hx : evO R x = some u) : OP P n ⟨d,.unOp op T x,ty,ps,af,g⟩ (dR ρ R) (aar ρ v) := by
 unfold unV at h
 split at h
 ·split at h
  ·cases h; exact axT (aaA hx)
  ·cases h; exact art (aaA hx)
  ·cases h; exact art (aaA hx)
  ·cases h
 ·split at h
  ·rename_i hi; cases h; rw [acD]; exact axV (abt hx hi) rfl
  ·cases h
 ·split at h
  ·rename_i hi; cases h; rw [acD]; exact ax5 (abt hx hi) rfl
  ·cases h
 ·cases h
theorem apU {ρ : Env} {l : List V} {i : Nat} {v : V} (h : l[i]? = some v) : (aam ρ l)[i]? = some (aar ρ v) := by rw [aaH,List.getElem?_map,h]; rfl
theorem ayI {d : Option Tmp} {ty : TypeId} {ps : String} {af : Array Edge} {g : Option (Nat × Bool)} {bu : Builtin} {xs : Array Operand} {ts : Array TypeId} {gs : List Gd} {v : V} {L : Nat → Option Nat} (hL : ∀ id m,L id = some m → (ρ.s id).n = m) (h : buV P L R bu xs.toList ts.toList = some (gs,v)) (hg : ∀ g ∈ gs,g.P) :
  OP P n ⟨d,.call ⟨.builtin bu,xs,ts⟩,ty,ps,af,g⟩ (dR ρ R) (aar ρ v) := by
 unfold buV at h
 split at h
 ·split at h
  ·rename_i x T hxs hts
   obtain rfl : xs = #[x] := by apply Array.ext'; simpa using hxs
   obtain rfl : ts = #[T] := by apply Array.ext'; simpa using hts
   split at h
   ·rename_i hT
    split at h
    ·rename_i u hx
     simp only [Option.map_eq_some_iff,Prod.mk.injEq] at h; obtain ⟨w,hw,rfl,rfl⟩ := h
     unfold ayi at hw
     split at hw
     ·rename_i id
      cases hm : L id with
      | none =>rw [hm] at hw; cases hw
      | some m =>
      rw [hm] at hw
      cases hw
      have := al8 (P := P) (n := n) (d := d) (ty := ty) (ps := ps) (af := af) (g := g) (aaA (ρ := ρ) hx) (abr hT)
      rw [hL _ _ hm] at this
      exact this
     ·cases hw; exact al8 (aaA hx) (abr hT)
     ·cases hw; exact al8 (aaA hx) (abr hT)
     ·cases hw; exact al8 (aaA hx) (abr hT)
     ·cases hw
    ·cases h
   ·cases h
  ·cases h
 ·split at h
  ·rename_i x y hxs
   obtain rfl : xs = #[x,y] := by apply Array.ext'; simpa using hxs
   split at h
   ·rename_i hx
    split at h
    ·rename_i hy
     split at h
     ·rename_i hi
      split at h
      ·rename_i hj
       cases h; rw [acD]; exact axX (abt hx hi) (abt hy hj)
      ·cases h
     ·cases h
    ·cases h
   ·cases h
  ·cases h
 ·split at h
  ·rename_i x y hxs
   obtain rfl : xs = #[x,y] := by apply Array.ext'; simpa using hxs
   split at h
   ·rename_i hx
    split at h
    ·rename_i hy
     split at h
     ·rename_i hi
      split at h
      ·rename_i hj
       cases h; rw [acD]; exact axY (abt hx hi) (abt hy hj)
      ·cases h
     ·cases h
    ·cases h
   ·cases h
  ·cases h
 ·cases h
theorem ayw {L : Nat → Option Nat} {o : Oper} {gs : List Gd} {v : V} (hL : ∀ id m,L id = some m → (ρ.s id).n = m) (h : evP P L R o.op = some (gs,v)) (hg : ∀ g ∈ gs,g.P) : OP P n o (dR ρ R) (aar ρ v) := by
 obtain ⟨d,op,ty,ps,af,g⟩ := o
 simp only at h
 unfold evP at h
 split at h
 ·simp only [Option.map_eq_some_iff,Prod.mk.injEq] at h; obtain ⟨u,hu,rfl,rfl⟩ := h; exact awa (aaA hu)
 ·simp only [Option.map_eq_some_iff,Prod.mk.injEq] at h; obtain ⟨u,hu,rfl,rfl⟩ := h; exact arv (aaA hu)
 ·split at h
  ·rename_i hx; cases h; exact anl (aaA hx)
  ·rename_i hx; cases h; exact al7 (by simpa only [aar] using aaA hx)
  ·cases h
 ·split at h
  ·rename_i b hx
   simp only [Option.map_eq_some_iff,Prod.mk.injEq] at h; obtain ⟨u,hu,rfl,rfl⟩ := h
   refine av8 (b := b) (aaA hx) ?_
   cases b <;> exact aaA hu
  ·cases h
 ·split at h
  ·rename_i hx
   split at h
   ·rename_i hy; exact ayL h hg hx hy
   ·cases h
  ·cases h
 ·split at h
  ·rename_i hx
   simp only [Option.map_eq_some_iff,Prod.mk.injEq] at h; obtain ⟨u,hu,rfl,rfl⟩ := h
   exact axr hu hx
  ·cases h
 ·split at h
  ·rename_i hx
   split at h
   ·rename_i hi
    split at h
    ·rename_i hT
     split at h
     ·rename_i hT'
      cases h; rw [acD]; exact awb (abt hx hi) (aoJ hT) (aoJ hT') rfl
     ·cases h
    ·cases h
   ·cases h
  ·cases h
 ·split at h
  ·rename_i hx
   simp only [Option.map_eq_some_iff,Prod.mk.injEq] at h; obtain ⟨u,hu,rfl,rfl⟩ := h
   exact apK (aaA hx) (by simpa using apU hu)
  ·cases h
 ·split at h
  ·rename_i hx
   simp only [Option.map_eq_some_iff,Prod.mk.injEq] at h; obtain ⟨u,hu,rfl,rfl⟩ := h
   exact atU (aaA hx) hu (Nat.add_assoc ..)
  ·cases h
 ·split at h
  ·rename_i c _ _ _
   obtain ⟨callee,xs,ts⟩ := c
   simp only at *
   subst callee
   exact ayI hL h hg
  ·cases h
 ·split at h
  ·rename_i f first captured _ he
   simp only [Option.map_eq_some_iff,Prod.mk.injEq] at h; obtain ⟨u,hu,rfl,rfl⟩ := h
   have : first = #[] := by simpa using he
   subst this
   exact anm (xs := captured.toList) (agl hu)
  ·split at h
   ·rename_i f first captured _ _ _ he
    simp only [Option.map_eq_some_iff,Prod.mk.injEq] at h; obtain ⟨u,hu,rfl,rfl⟩ := h
    have : captured = #[] := by simpa using he
    subst this
    intro a w s
    have := (agl (ρ := ρ) hu).eval s
    simp only [execOp]
    have e1 : first.map a.eval = (aam ρ u).toArray := by apply Array.ext'; rw [Array.toList_map,this]
    rw [e1,show Array.map a.eval #[] = #[] from by simp]
    simp only [aar]
    rfl
   ·cases h
 ·cases h
end
def aqb (l : Nat) (o : Obj) : aag := fun h =>h l 0 = some (.obj o)
section
variable {B : Nat} {w : World} {L M : List aag} {l : Nat} {o o' : Obj}
theorem Sat.obj (s : Sat B w (aqb l o :: L)) : B ≤ l ∧ w.heap[l]? = some o ∧ Obj.plain o = true := by
 obtain ⟨h,H,k1,k2,a,e,hA,hL⟩ := s
 have := H l 0 (.obj o) (by rw [e]; unfold ab1; rw [show k1 l 0 = _ from hA])
 exact ⟨this.1.resolve_right id,this.2.1,this.2.2.1⟩
theorem ag1 {b j : Nat} {v : Value} (h : w.heap[b]? = some o) (hp : Obj.plain o = true) : w.cell? ⟨b,j,none⟩ ≠ some v := by
 unfold World.cell?; rw [h]; cases o <;> simp_all [Obj.plain]
theorem Sat.putObj (s : Sat B w (aqb l o :: L)) (hp : Obj.plain o' = true) : Sat B (w.putObj l o') (aqb l o' :: L) := by
 have s0 := s.obj
 obtain ⟨h,H,k1,k2,a,e,hA,hL⟩ := s
 have hA' : k1 l 0 = some (.obj o) := hA
 refine ⟨ab1 (fun b j =>if b = l ∧ j = 0 then some (.obj o') else k1 b j) k2,?_,_,k2,?_,rfl,?_,hL⟩
 ·intro b j x hx
  by_cases hc : b = l ∧ j = 0
  ·obtain ⟨rfl,rfl⟩ := hc
   unfold ab1 at hx
   simp only [and_self,if_true] at hx
   obtain rfl := Option.some.inj hx
   exact ⟨.inl s0.1,World.putObj_heap_same (Array.getElem?_eq_some_iff.1 s0.2.1).1,hp,rfl⟩
  ·have hx' : h b j = some x := by
    rw [e]; unfold ab1 at hx ⊢
    simp only [if_neg hc] at hx
    exact hx
   have h2 := H b j x hx'
   refine ⟨h2.1,?_⟩
   by_cases hb : b = l
   ·subst hb
    cases x with
    | cell v =>exact absurd h2.2.1 (ag1 s0.2.1 s0.2.2)
    | obj y =>exact absurd ⟨rfl,h2.2.2.2⟩ hc
    | look v =>exact absurd h2.2 (ag1 s0.2.1 s0.2.2)
   ·exact h2.2.same (World.putObj_heap_other hb)
 ·intro b j
  by_cases hc : b = l ∧ j = 0
  ·obtain ⟨rfl,rfl⟩ := hc
   rcases a b 0 with h2 | h2 | ⟨v,h2,_⟩
   ·rw [hA'] at h2; cases h2
   ·exact .inr (.inl h2)
   ·rw [hA'] at h2; cases h2
  ·simp only [if_neg hc]; exact a b j
 ·show (if l = l ∧ 0 = 0 then some (Item.obj o') else k1 l 0) = some (.obj o')
  simp
theorem Sat.newObj (s : Sat B w L) (hB : B ≤ w.heap.size) (hp : Obj.plain o = true) : Sat B (w.alloc o) (aqb w.heap.size o :: L) := by
 obtain ⟨h,H,hL⟩ := s
 have hfar : ∀ j,h w.heap.size j = none := fun j =>by
  cases e : h w.heap.size j with
  | none =>rfl
  | some x =>exact absurd (H _ _ _ e).2.lt (by omega)
 refine ⟨ab1 (fun b j =>if b = w.heap.size ∧ j = 0 then some (.obj o) else none) h,?_,_,h,?_,rfl,?_,hL⟩
 ·intro b j x hx
  unfold ab1 at hx
  by_cases hc : b = w.heap.size ∧ j = 0
  ·obtain ⟨rfl,rfl⟩ := hc
   simp only [and_self,if_true] at hx
   obtain rfl := Option.some.inj hx
   exact ⟨.inl hB,heap_alloc_new w _,hp,rfl⟩
  ·simp only [if_neg hc] at hx
   have h2 := H b j x hx
   exact ⟨h2.1,h2.2.same (Below.heap_alloc w _ _ h2.2.lt)⟩
 ·intro b j
  by_cases hc : b = w.heap.size ∧ j = 0
  ·obtain ⟨rfl,rfl⟩ := hc; exact .inr (.inl (hfar _))
  ·left; simp [hc]
 ·show (if w.heap.size = w.heap.size ∧ 0 = 0 then some (Item.obj o) else none) = some (.obj o)
  simp
end
section
variable {P : Program} {Q : Exit → Act → World → Prop} {B : Nat} {W : World} {L M : List aag}
 {ty : TypeId} {ps : String} {af : Array Edge} {g : Option (Nat × Bool)}
theorem Cls.perm {w : World} (h : Cls B W L w) (p : L.Perm M) : Cls B W M w := ⟨h.1,h.2.1,h.2.2.perm p⟩
theorem Cls.putObj {w : World} {l : Nat} {o o' : Obj} (h : Cls B W (aqb l o :: L) w) (hp : Obj.plain o' = true) : Cls B W (aqb l o' :: L) (w.putObj l o') :=
 ⟨h.1.grown (grownBy_putObj' w l o') h.2.1 (fun k e =>by cases e; exact h.2.2.obj.1),by simpa using h.2.1,h.2.2.putObj hp⟩
theorem Cls.newObj {w : World} {o : Obj} (h : Cls B W L w) (hp : Obj.plain o = true) : Cls B W (aqb w.heap.size o :: L) (w.alloc o) :=
 ⟨h.1.alloc h.2.1 o,by rw [World.size_alloc]; have := h.2.1; omega,h.2.2.newObj h.2.1 hp⟩
section
variable {o : Oper} {ops : Array Oper} {n : Nat} {R R' : abX} {v : Value} {rest : List Oper}
end
end
def ayR (n : Nat) (w u : World) : Prop := ∀ b o v,n ≤ b → w.cell? ⟨b,o,none⟩ = some v → u.cell? ⟨b,o,none⟩ = some v
theorem ayR.refl (n : Nat) (w : World) : ayR n w w := fun _ _ _ _ h =>h
def avj (w : World) (h : Hp) : Prop := ∀ b o x,h b o = some x → ade w b o x
def azu (Φ : World → Prop) : aag := fun h =>∀ w,avj w h → Φ w
section
variable {P : Program} {n B : Nat} {W : World} {R R' : abX} {L L' M : List aag} {v u : Value} {x y z : Operand} {w w' : World} {Φ : World → Prop}
 {d : Option Tmp} {ty : TypeId} {ps : String} {af : Array Edge} {g : Option (Nat × Bool)} {T T' : TypeId}
theorem Sat.held (s : Sat B w (azu Φ :: L)) : Φ w := by
 obtain ⟨h,H,k1,k2,a,e,hA,hL⟩ := s
 exact hA w fun b o x hx =>(H b o x (by rw [e]; unfold ab1; rw [hx])).2
end
theorem ajS {u : World} {b o : Nat} {v : Value} (h : u.cell? ⟨b,o,none⟩ = some v) : b < u.heap.size := by
 rcases Nat.lt_or_ge b u.heap.size with h1 | h1
 ·exact h1
 ·have e := Array.getElem?_eq_none h1
  unfold World.cell? at h; rw [e] at h; cases h
def SE (L L' : List aag) : Prop := ∀ B w,Sat B w L → Sat B w L'
def adI (Φ : World → Prop) : aag := fun h =>∃ k : Hp,(∀ b o x,k b o = some x → (∃ v,x = .look v) ∧ h b o = some x) ∧ ∀ w,avj w k → Φ w
section
variable {r : Option Nat} {P : Program} {ops : Array Oper} {Q : Exit → Act → World → Prop} {n B : Nat} {W : World} {R R' : abX} {L L' L'' M : List aag} {Φ Ψ : World → Prop} {v : Value} {x y z : Operand}
 {d : Option Tmp} {ty : TypeId} {ps : String} {af : Array Edge} {g : Option (Nat × Bool)} {T T' : TypeId}
theorem SE.of (e : Ent L L') : SE L L' := fun _ _ s =>s.imp e
theorem SE.trans (h : SE L L') (k : SE L' L'') : SE L L'' := fun B w s =>k B w (h B w s)
def exL {X : Type} (N : X → List aag) : aag := fun h =>∃ x,abk (N x) h
theorem adN {X : Type} {N : X → List aag} {w : World} (s : Sat B w (exL N :: L)) : ∃ x,Sat B w (N x ++ L) := by
 obtain ⟨h,H,k1,k2,a,e,⟨x,hA⟩,hL⟩ := s
 exact ⟨x,h,H,aao.2 ⟨k1,k2,a,e,hA,hL⟩⟩
theorem aih : Ent (adI Φ :: L) (adI Φ :: adI Φ :: L) := fun h s =>by
 obtain ⟨k1,k2,a,e,⟨k,hk,hΦ⟩,hL⟩ := s
 refine ⟨k,h,fun b o =>?_,?_,⟨k,fun b o x hx =>⟨(hk b o x hx).1,hx⟩,hΦ⟩,⟨k1,k2,a,e,⟨k,hk,hΦ⟩,hL⟩⟩
 ·cases hkb : k b o with
  | none =>exact .inl rfl
  | some x =>
   obtain ⟨⟨v,rfl⟩,h2⟩ := hk b o x hkb
   refine .inr (.inr ⟨v,rfl,?_⟩)
   rw [e]; unfold ab1; rw [h2]
 ·funext b o
  unfold ab1
  cases hkb : k b o with
  | none =>rfl
  | some x =>
   obtain ⟨⟨v,rfl⟩,h2⟩ := hk b o x hkb
   rw [e]; unfold ab1; rw [h2]
theorem acE (f : ∀ u,Φ u → Ψ u) : ∀ h,adI Φ h → adI Ψ h := fun _ ⟨k,hk,hΦ⟩ =>⟨k,hk,fun w hw =>f w (hΦ w hw)⟩
theorem aig {w : World} (s : Sat B w L) (h : adI Φ ∈ L) : Φ w := by
 obtain ⟨l',p⟩ := Pick.of_mem h
 obtain ⟨k,H,k1,k2,a,e,⟨k',hk,hΦ⟩,hL⟩ := s.perm p.perm
 exact hΦ w fun b o x hx =>(H b o x (by rw [e]; unfold ab1; rw [(hk b o x hx).2])).2
theorem arI {h k : Hp} (a : apart h k) (h1 : adI Φ h) (h2 : adI Ψ k) : adI (fun u =>Φ u ∧ Ψ u) (ab1 h k) := by
 obtain ⟨k1,q1,p1⟩ := h1
 obtain ⟨k2,q2,p2⟩ := h2
 refine ⟨ab1 k1 k2,fun b o x hx =>?_,fun w hw =>⟨p1 w fun b o x hx =>hw b o x (by unfold ab1; rw [hx]),p2 w fun b o x hx =>hw b o x ?_⟩⟩
 ·unfold ab1 at hx ⊢
  cases e1 : k1 b o with
  | some y =>
   rw [e1] at hx; obtain rfl := Option.some.inj hx
   obtain ⟨g1,g2⟩ := q1 b o y e1
   exact ⟨g1,by rw [g2]⟩
  | none =>
   rw [e1] at hx
   obtain ⟨g1,g2⟩ := q2 b o x hx
   refine ⟨g1,?_⟩
   rcases a b o with e | e | ⟨v,e3,e4⟩
   ·rw [e]; exact g2
   ·rw [e] at g2; cases g2
   ·rw [e3]; rw [e4] at g2; exact g2
 ·unfold ab1
  cases e1 : k1 b o with
  | none =>exact hx
  | some y =>
   obtain ⟨⟨v,rfl⟩,g2⟩ := q1 b o y e1
   obtain ⟨⟨u,rfl⟩,g4⟩ := q2 b o x hx
   rcases a b o with e | e | ⟨v',e3,e4⟩
   ·rw [e] at g2; cases g2
   ·rw [e] at g4; cases g4
   ·rw [e3] at g2; rw [e4] at g4
    injection g2 with g2; injection g2 with g2
    injection g4 with g4; injection g4 with g4
    rw [← g2,← g4]
theorem aoB : Ent (adI Φ :: adI Ψ :: L) (adI (fun u =>Φ u ∧ Ψ u) :: L) := fun h s =>by
 obtain ⟨k1,k2,a,e,h1,k3,k4,a',e',h2,hL⟩ := s
 subst e'
 have a1 := (aaY a').1 (aaq a)
 exact ⟨ab1 k1 k3,k4,(aaY (aaq a1.1)).2 ⟨aaq a1.2,a'⟩,by rw [e,ab3],arI (aaq a1.1) h1 h2,hL⟩
theorem aiM : Ent L (adI (fun _ =>True) :: L) := fun h s =>⟨fun _ _ =>none,h,fun _ _ =>.inl rfl,by funext x y; rfl,⟨fun _ _ =>none,(fun _ _ _ (e : none = some _) =>by cases e),fun _ _ =>trivial⟩,s⟩
theorem anp {b o : Nat} {vs : List Value} : SE (pts b o vs :: L) (adI (fun u =>∀ i v,vs[i]? = some v → u.cell? ⟨b,o + i,none⟩ = some v) :: L) := fun B w s =>by
 obtain ⟨h,H,k1,k2,a,e,hA,hL⟩ := s
 let f : Option Item → Option Item := fun x =>match x with | some (.cell v) =>some (.look v) | y =>y
 have hin : ∀ i v,vs[i]? = some v → k1 b (o + i) = some (.cell v) := hA
 refine ⟨ab1 (fun b o =>f (k1 b o)) k2,?_,_,k2,?_,rfl,⟨fun b' o' =>if b' = b ∧ o ≤ o' then (match vs[o' - o]? with | some v =>some (.look v) | none =>none) else none,?_,?_⟩,hL⟩
 ·intro b' o' x hx
  unfold ab1 at hx
  simp only [] at hx
  cases e1 : k1 b' o' with
  | none =>
   rw [e1] at hx
   exact H b' o' x (by rw [e]; unfold ab1; rw [e1]; exact hx)
  | some y =>
   have h1 := H b' o' y (by rw [e]; unfold ab1; rw [e1])
   rw [e1] at hx
   cases y with
   | cell v =>obtain rfl := Option.some.inj hx; exact ⟨.inr trivial,h1.2.1⟩
   | obj v =>obtain rfl := Option.some.inj hx; exact h1
   | look v =>obtain rfl := Option.some.inj hx; exact h1
 ·intro b' o'
  rcases a b' o' with e1 | e1 | ⟨v,e1,e2⟩
  ·left; simp only [e1]; rfl
  ·exact .inr (.inl e1)
  ·right; right; exact ⟨v,by simp only [e1]; rfl,e2⟩
 ·intro b' o' x hx
  simp only [] at hx
  by_cases hc : b' = b ∧ o ≤ o'
  ·rw [if_pos hc] at hx
   obtain ⟨rfl,hle⟩ := hc
   cases hv : vs[o' - o]? with
   | none =>rw [hv] at hx; cases hx
   | some v =>
    rw [hv] at hx
    obtain rfl := Option.some.inj hx
    have := hin _ _ hv
    rw [Nat.add_sub_cancel' hle] at this
    exact ⟨⟨v,rfl⟩,by simp only [this]; rfl⟩
  ·rw [if_neg hc] at hx; cases hx
 ·intro u hu i v hi
  have := hu b (o + i) (.look v) (by simp [hi])
  exact this
def roS {α : Type} (enc : α → List Value) (sz : Nat) (A : Option Addr) (c : Nat) (xs : List α) : aag := adI fun u =>Sl enc sz u u.heap.size A xs ∧ xs.length ≤ c
section
variable {α : Type} {enc : α → List Value} {sz : Nat} {A : Option Addr} {c : Nat} {xs : List α}
theorem aoO {α : Type} {enc : α → List Value} {sz : Nat} (henc : ∀ x,(enc x).length = sz) : ∀ (xs : List α) (i : Nat) (x : α),xs[i]? = some x → ∀ (j : Nat) y,(enc x)[j]? = some y → (xs.flatMap enc)[i * sz + j]? = some y
 | [],i,x,h,_,_,_ =>by cases h
 | z :: xs,0,x,h,j,y,hj =>by
  simp at h; subst h
  rw [List.flatMap_cons,Nat.zero_mul,Nat.zero_add,List.getElem?_append_left (List.getElem?_eq_some_iff.1 hj).1]; exact hj
 | z :: xs,i + 1,x,h,j,y,hj =>by
  rw [List.flatMap_cons,List.getElem?_append_right (by rw [henc,Nat.add_mul]; omega)]
  have := aoO henc xs i x (by simpa using h) j y hj
  rw [henc,← this]; congr 1; rw [Nat.add_mul]; omega
theorem auW {L : List aag} {A : Option Addr} {c : Nat} : Ent L (roS enc sz A c ([] : List α) :: L) := aiM.trans (Ent.cons (acE fun _ _ =>⟨Sl.nil,Nat.zero_le _⟩) Ent.refl)
theorem alF (hsz : 0 < sz) (henc : ∀ x,(enc x).length = sz) {m : Nat} (hm : xs.length = m) : SE (acC A m c sz (xs.flatMap enc) :: L) (roS enc sz A c xs :: L) := fun B w s =>by
 subst hm
 obtain ⟨h1,h2,h3,h4⟩ := acH s (List.mem_cons_self ..)
 cases xs with
 | nil =>exact auW.sat s.drop
 | cons x xs =>
  obtain ⟨h,H,k1,k2,a,e,⟨r1,r2,r3,r4⟩,hL⟩ := s
  rcases r4 with ⟨_,r4⟩ | ⟨b,o,spare,rfl,rs,rp⟩
  ·simp at r2; omega
  ·have s' : Sat B w (pts b o ((x :: xs).flatMap enc) :: L) := ⟨h,H,k1,k2,a,e,(afA rp).1,hL⟩
   have s2 := anp B w s'
   have hlen : (x :: xs).length ≤ 9223372036854775807 := by unfold maxLen at r3; omega
   refine s2.imp fun h =>aaD (acE fun u hu =>⟨⟨hlen,fun _ =>⟨b,o,rfl,?_,?_⟩⟩,r2⟩) 
   ·cases hx : enc x with
    | nil =>have := henc x; rw [hx] at this; simp at this; omega
    | cons y ys =>exact ajS (hu 0 y (by rw [List.flatMap_cons,hx]; rfl))
   ·intro i z hz j v hj
    have := hu _ _ (aoO henc (x :: xs) i z hz j v hj)
    rw [Nat.add_assoc]; exact this
theorem amX {w : World} (s : Sat B w L) (h : roS enc sz A c xs ∈ L) : Sl enc sz w w.heap.size A xs ∧ xs.length ≤ c := aig s h
theorem aqI : Ent (roS enc sz A c xs :: L) (roS enc sz A c xs :: roS enc sz A c xs :: L) := aih
end
end
theorem atP {b o : Nat} {xs ys : List Value} {h k : Hp} (p1 : pts b o xs h) (p2 : pts b (o + xs.length) ys k) (a : apart h k) : pts b o (xs ++ ys) (ab1 h k) := fun i v hi =>by
 unfold ab1
 rcases Nat.lt_or_ge i xs.length with h1 | h1
 ·rw [List.getElem?_append_left h1] at hi
  rw [p1 i v hi]
 ·rw [List.getElem?_append_right h1] at hi
  have := p2 _ v hi
  rw [Nat.add_assoc,Nat.add_sub_cancel' h1] at this
  rcases a b (o + i) with e | e | ⟨u,_,e⟩
  ·rw [e]; exact this
  ·rw [e] at this; cases this
  ·rw [e] at this; cases this
theorem arh {b o : Nat} {xs ys : List Value} {h : Hp} (p : pts b o (xs ++ ys) h) : ∃ h1 h2,apart h1 h2 ∧ h = ab1 h1 h2 ∧ pts b o xs h1 ∧ pts b (o + xs.length) ys h2 := by
 have p2 := afA p
 refine ⟨fun b' o' =>if b' = b ∧ o' < o + xs.length then h b' o' else none,fun b' o' =>if b' = b ∧ o' < o + xs.length then none else h b' o',fun b' o' =>?_,?_,fun i v hi =>?_,fun i v hi =>?_⟩
 ·by_cases hc : b' = b ∧ o' < o + xs.length
  ·simp only [if_pos hc]; exact .inr (.inl rfl)
  ·simp only [if_neg hc]; exact .inl rfl
 ·funext b' o'
  unfold ab1
  by_cases hc : b' = b ∧ o' < o + xs.length
  ·simp only [if_pos hc]; cases h b' o' <;> rfl
  ·simp only [if_neg hc]
 ·have hlt := (List.getElem?_eq_some_iff.1 hi).1
  simp only [true_and]
  rw [if_pos (by omega)]
  exact p2.1 i v hi
 ·have : ¬ (b = b ∧ o + xs.length + i < o + xs.length) := by omega
  show (if b = b ∧ o + xs.length + i < o + xs.length then none else h b (o + xs.length + i)) = _
  rw [if_neg this]
  exact p2.2 i v hi
theorem ahl {b o : Nat} {xs ys : List Value} {L : List aag} : Ent (pts b o (xs ++ ys) :: L) (pts b o xs :: pts b (o + xs.length) ys :: L) := fun h s =>by
 obtain ⟨k1,k2,a,e,hA,hL⟩ := s
 obtain ⟨h1,h2,a',e',p1,p2⟩ := arh hA
 subst e'
 have a2 := (aaY a').1 a
 exact ⟨h1,ab1 h2 k2,aaq ((aaY a2.2).2 ⟨aaq a',aaq a2.1⟩),by rw [e,ab3],p1,h2,k2,a2.2,rfl,p2,hL⟩
theorem ahm {b o o' : Nat} {xs ys : List Value} {L : List aag} (ho : o + xs.length = o') : Ent (pts b o xs :: pts b o' ys :: L) (pts b o (xs ++ ys) :: L) := fun h s =>by
 subst ho
 obtain ⟨k1,k2,a,e,hA,k3,k4,a',e',hB,hL⟩ := s
 subst e'
 have a1 := (aaY a').1 (aaq a)
 exact ⟨ab1 k1 k3,k4,(aaY (aaq a1.1)).2 ⟨aaq a1.2,a'⟩,by rw [e,ab3],atP hA hB (aaq a1.1),hL⟩
section
variable {α : Type} (enc : α → Option Addr → Nat → List Value) (lst : α → List Int) (sz : Nat)
end
section
variable {α : Type} {enc : α → Option Addr → Nat → List Value} {lst : α → List Int} {sz : Nat}
variable {r : Option Nat} {P : Program} {ops : Array Oper} {Q : Exit → Act → World → Prop} {n B : Nat} {W : World} {R R' : abX} {L L' M : List aag} {v : Value} {x y z : Operand}
 {d : Option Tmp} {ty : TypeId} {ps : String} {af : Array Edge} {g : Option (Nat × Bool)} {T T' : TypeId} {A : Option Addr} {c i : Nat} {xs : List α}
end
structure AccV where
 kind : Int
 cell : Int
 old : Int
 new : Int
 deriving DecidableEq,Inhabited
structure MemV where
 cells : List Int
 last : AccV
 count : Int
 deriving DecidableEq,Inhabited
structure RecV where
 prog : Int
 parent : Int
 pc : Int
 left : Int
 waiting : Int
 kids : List Int
 started : Bool
 deriving DecidableEq,Inhabited
structure QV where
 top : Int
 bottom : Int
 ring : Int
 cap : Int
 deriving DecidableEq,Inhabited
structure FrV where
 kind : Int
 line : Int
 q : QV
 a : Int
 b : Int
 d : Int
 i : Int
 j : Int
 n : Int
 t : Int
 u : Int
 v : Int
 w : Int
 x : Int
 l : List Int
 deriving DecidableEq,Inhabited
structure ResV where
 done : Bool
 code : Int
 value : Int
 deriving DecidableEq,Inhabited
structure EntV where
 kind : Int
 value : Int
 deriving DecidableEq,Inhabited
deriving instance Inhabited for Ins
deriving instance Inhabited for Sub
deriving instance Inhabited for Ev
def EntV.enc (x : EntV) : List Value := [.int .i64 x.kind,.int .i64 x.value]
instance : Inhabited Addr := ⟨⟨0,0,none⟩⟩
@[reducible] def wi (a : Int) : Int := IntKind.i64.wrap a
@[reducible] def wu (a : Int) : Int := IntKind.u64.wrap a
@[reducible] def orU (a b : Int) : Int := IntKind.u64.wrap (BitVec.ofInt IntKind.u64.bits a ||| BitVec.ofInt IntKind.u64.bits b).toNat
@[reducible] def azZ (a b : Int) : Int := IntKind.u64.wrap (BitVec.ofInt IntKind.u64.bits a &&& BitVec.ofInt IntKind.u64.bits b).toNat
@[reducible] def auB (a : Int) : Int := IntKind.u64.wrap (BitVec.ofInt IntKind.u64.bits (if IntKind.u64.signed then -1 else IntKind.u64.max) ^^^ BitVec.ofInt IntKind.u64.bits a).toNat
def at_ {α : Type} [Inhabited α] (xs : List α) (i : Int) : α := (xs[i.toNat]?).getD default
section
variable {r : Option Nat} {P : Program} {ops : Array Oper} {Q : Exit → Act → World → Prop} {n B : Nat} {W : World} {R R' : abX} {L L' M : List aag} {v : Value} {x y z : Operand}
 {d : Option Tmp} {ty : TypeId} {ps : String} {af : Array Edge} {g : Option (Nat × Bool)} {T T' : TypeId} {α : Type} {enc : α → List Value} {sz : Nat} {A : Option Addr} {c : Nat} {xs : List α}
end
inductive Fl (T : Nat → Type) (M : Type) where
 | i (k : IntKind) (x : Int)
 | b (x : Bool)
 | c (v : Value)
 | own (c : Nat) (x : T c)
 | row (c : Nat) (xs : List (T c))
 | ro (c : Nat) (xs : List (T c))
 | rr (c : Nat) (xss : List (List (T c)))
 | mach (m : M)
 | o
def af0 {T : Nat → Type} {M : Type} : List (Fl T M) → Bool
 | [] =>true
 | f :: l =>match f with
  | .i .. =>af0 l
  | .b .. =>af0 l
  | _ =>false
structure KT where
 T : Nat → Type
 M : Type
 df : (c : Nat) → T c
 sz : Nat → Nat
 vw : (c : Nat) → T c → List (Fl T M)
 bk : (c : Nat) → List (Fl T M) → Option (T c)
 bk_ok : ∀ c l x,bk c l = some x → vw c x = l
 sz_ok : ∀ c x,(vw c x).length = sz c
 pl : Nat → Bool
 pl_ok : ∀ c,pl c = true → ∀ x,af0 (vw c x) = true
 nc : ∀ c x,∀ f ∈ vw c x,∀ u,f ≠ .c u
 tid : Nat → TypeId
 tk : TypeId → Option Nat
 spl : M → Option (Σ c : Nat,T c)
 nilM : M
 nilM_ok : spl nilM = none
 mkM : (c : Nat) → T c → Option M
 mkM_ok : ∀ c x m,mkM c x = some m → spl m = some ⟨c,x⟩
 kd : TypeId → Option Nat
 kd_ok : ∀ t c,kd t = some c → tid c = t
 ls : (c c' : Nat) → Option (PLift (T c' = List (T c)))
 ls_ok : ∀ c c' h,ls c c' = some h → ∀ x,vw c' x = [.ro c (h.down ▸ x)] ∨ (vw c' x = [.row c (h.down ▸ x)] ∧ pl c = true ∧ 0 < sz c)
section
variable {T : Nat → Type} {M : Type}
def flV : Fl T M → Value
 | .i k x =>.int k x
 | .b x =>.bool x
 | .c v =>v
 | _ =>undef
end
def rrS {α : Type} (enc : α → List Value) (sz : Nat) (A : Option Addr) (c : Nat) (xss : List (List α)) : aag := fun h =>∃ ps : List (Option Addr × Nat),adI (fun u =>(xss.length ≤ 9223372036854775807 ∧ xss.length ≤ c) ∧
 ∀ (i : Nat) (xs : List α),xss[i]? = some xs → ∃ a,ps[i]? = some a ∧ (Sl enc sz u u.heap.size a.1 xs ∧ xs.length ≤ a.2) ∧ ∃ b o,A = some ⟨b,o,none⟩ ∧ b < u.heap.size ∧ u.cell? ⟨b,o + i,none⟩ = some (.slice a.1 xs.length a.2)) h
def ah4 (p : Prop) : aag := fun _ =>p
theorem ai3 {p : Prop} {L : List aag} (h : p) : Ent L (ah4 p :: L) := fun k s =>⟨fun _ _ =>none,k,fun _ _ =>.inl rfl,by funext x y; rfl,h,s⟩
section
variable (K : KT)
abbrev KT.F := Fl K.T K.M
def ac0 (c : Nat) (x : K.T c) : List Value := (K.vw c x).map flV
abbrev ObS := (c : Nat) → K.T c → Nat × Nat → aag
abbrev RwS := (c : Nat) → List (K.T c) → Option Addr → Nat → aag
def pcW (ob : ObS K) (rw_ : RwS K) : Fl K.T K.M → Value → aag
 | .i k x,v =>ah4 (v = .int k x)
 | .b x,v =>ah4 (v = .bool x)
 | .c u,v =>ah4 (v = u)
 | .own c x,v =>fun h =>∃ q,v = .pointer (some ⟨q.1,q.2,none⟩) ∧ ob c x q h
 | .row c xs,v =>fun h =>∃ A cap,v = .slice A xs.length cap ∧ rw_ c xs A cap h
 | .ro c xs,v =>fun h =>∃ A cap,v = .slice A xs.length cap ∧ roS (ac0 K c) (K.sz c) A cap xs h
 | .rr c xss,v =>fun h =>∃ A cap,v = .slice A xss.length cap ∧ rrS (ac0 K c) (K.sz c) A cap xss h
 | .mach m,v =>fun h =>match K.spl m with
  | none =>v = .nilIface
  | some p =>∃ q,v = .iface (K.tid p.1) (.pointer (some ⟨q.1,q.2,none⟩)) ∧ ob p.1 p.2 q h
 | .o,v =>ah4 (abO v = true)
end
def fsS {F : Type} (pc : F → Value → aag) : List F → List Value → List aag
 | [],[] =>[]
 | f :: fs,v :: vs =>pc f v :: fsS pc fs vs
 | _,_ =>[fun _ =>False]
section
variable (K : KT)
def obW (pc : Fl K.T K.M → Value → aag) : ObS K := fun c x q h =>∃ vs,abk (pts q.1 q.2 vs :: fsS pc (K.vw c x) vs) h
def abx (pc : Fl K.T K.M → Value → aag) (c : Nat) : List (K.T c) → List (List Value) → List aag
 | [],[] =>[]
 | x :: xs,vs :: vss =>fsS pc (K.vw c x) vs ++ abx pc c xs vss
 | _,_ =>[fun _ =>False]
def rwW (pc : Fl K.T K.M → Value → aag) : RwS K := fun c xs A cap h =>∃ vss : List (List Value),abk (acC A xs.length cap (K.sz c) vss.flatten :: abx K pc c xs vss) h
def pcN : Nat → Fl K.T K.M → Value → aag
 | 0 =>pcW K (fun _ _ _ _ =>False) (fun _ _ _ _ _ =>False)
 | n + 1 =>pcW K (obW K (pcN n)) (rwW K (pcN n))
def pcS (f : Fl K.T K.M) (v : Value) : aag := fun h =>∃ n,pcN K n f v h
def obS : ObS K := fun c x q h =>∃ n,obW K (pcN K n) c x q h
def rwS : RwS K := fun c xs A cap h =>∃ n,rwW K (pcN K n) c xs A cap h
end
section
variable {K : KT}
theorem afE {F : Type} {pc pc' : F → Value → aag} (hm : ∀ f v h,pc f v h → pc' f v h) : ∀ (fs : List F) (vs : List Value) (L : List aag) (h : Hp),abk (fsS pc fs vs ++ L) h → abk (fsS pc' fs vs ++ L) h
 | [],[],_,_,s =>s
 | f :: fs,v :: vs,L,h,s =>aaD (hm f v) (abf (fun h s =>afE hm fs vs L h s) s)
 | [],_ :: _,_,_,⟨_,_,_,_,hf,_⟩ =>hf.elim
 | _ :: _,[],_,_,⟨_,_,_,_,hf,_⟩ =>hf.elim
theorem agt {pc pc' : Fl K.T K.M → Value → aag} (hm : ∀ f v h,pc f v h → pc' f v h) {c : Nat} : ∀ (xs : List (K.T c)) (vss : List (List Value)) (L : List aag) (h : Hp),abk (abx K pc c xs vss ++ L) h → abk (abx K pc' c xs vss ++ L) h
 | [],[],_,_,s =>s
 | x :: xs,vs :: vss,L,h,s =>by
  simp only [abx,List.append_assoc] at s ⊢
  have s1 := afE hm _ _ _ h s
  obtain ⟨k1,k2,a,e,h1,h2⟩ := aao.1 s1
  exact aao.2 ⟨k1,k2,a,e,h1,agt hm xs vss L k2 h2⟩
 | [],_ :: _,_,_,⟨_,_,_,_,hf,_⟩ =>hf.elim
 | _ :: _,[],_,_,⟨_,_,_,_,hf,_⟩ =>hf.elim
theorem atZ {pc pc' : Fl K.T K.M → Value → aag} (hm : ∀ f v h,pc f v h → pc' f v h) (c : Nat) (x : K.T c) (q : Nat × Nat) (h : Hp) (s : obW K pc c x q h) : obW K pc' c x q h := by
 obtain ⟨vs,s⟩ := s
 refine ⟨vs,abf (fun k hk =>?_) s⟩
 have := afE hm (K.vw c x) vs [] k (by simpa using hk)
 simpa using this
theorem atn {pc pc' : Fl K.T K.M → Value → aag} (hm : ∀ f v h,pc f v h → pc' f v h) (c : Nat) (xs : List (K.T c)) (A : Option Addr) (cap : Nat) (h : Hp) (s : rwW K pc c xs A cap h) : rwW K pc' c xs A cap h := by
 obtain ⟨vs,s⟩ := s
 refine ⟨vs,abf (fun k hk =>?_) s⟩
 have := agt hm xs vs [] k (by simpa using hk)
 simpa using this
theorem aif {ob ob' : ObS K} {rw_ rw' : RwS K} (h1 : ∀ c x q h,ob c x q h → ob' c x q h) (h2 : ∀ c xs A cap h,rw_ c xs A cap h → rw' c xs A cap h) : ∀ f v h,pcW K ob rw_ f v h → pcW K ob' rw' f v h := by
 intro f v h hp
 cases f with
 | i k x =>exact hp
 | b x =>exact hp
 | c u =>exact hp
 | own c x =>obtain ⟨q,e,hq⟩ := hp; exact ⟨q,e,h1 _ _ _ _ hq⟩
 | row c xs =>obtain ⟨A,cap,e,hq⟩ := hp; exact ⟨A,cap,e,h2 _ _ _ _ _ hq⟩
 | ro c xs =>exact hp
 | rr c xss =>exact hp
 | mach m =>
  simp only [pcW] at hp ⊢
  split at hp
  ·exact hp
  ·obtain ⟨q,e',hq⟩ := hp; exact ⟨q,e',h1 _ _ _ _ hq⟩
 | o =>exact hp
theorem akJ : ∀ (n : Nat) (f : Fl K.T K.M) (v : Value) (h : Hp),pcN K n f v h → pcN K (n + 1) f v h
 | 0,f,v,h,hp =>aif (fun _ _ _ _ h =>h.elim) (fun _ _ _ _ _ h =>h.elim) f v h hp
 | n + 1,f,v,h,hp =>aif (atZ (akJ n)) (atn (akJ n)) f v h hp
theorem aov {n m : Nat} (hle : n ≤ m) (f : Fl K.T K.M) (v : Value) (h : Hp) (hp : pcN K n f v h) : pcN K m f v h := by
 induction hle with
 | refl =>exact hp
 | step _ ih =>exact akJ _ _ _ _ ih
theorem aiY : ∀ (fs : List (Fl K.T K.M)) (vs : List Value) (h : Hp),abk (fsS (pcS K) fs vs) h → ∃ n,abk (fsS (pcN K n) fs vs) h
 | [],[],_,s =>⟨0,s⟩
 | f :: fs,v :: vs,h,⟨k1,k2,a,e,⟨n,hf⟩,hL⟩ =>by
  obtain ⟨m,hm⟩ := aiY fs vs k2 hL
  refine ⟨max n m,k1,k2,a,e,aov (Nat.le_max_left ..) _ _ _ hf,?_⟩
  have := afE (aov (K := K) (Nat.le_max_right n m)) fs vs [] k2 (by simpa using hm)
  simpa using this
 | [],_ :: _,_,⟨_,_,_,_,hf,_⟩ =>hf.elim
 | _ :: _,[],_,⟨_,_,_,_,hf,_⟩ =>hf.elim
theorem ajw {c : Nat} : ∀ (xs : List (K.T c)) (vss : List (List Value)) (h : Hp),abk (abx K (pcS K) c xs vss) h → ∃ n,abk (abx K (pcN K n) c xs vss) h
 | [],[],_,s =>⟨0,s⟩
 | x :: xs,vs :: vss,h,s =>by
  obtain ⟨k1,k2,a,e,h1,h2⟩ := aao.1 s
  obtain ⟨n,hn⟩ := aiY _ _ _ h1
  obtain ⟨m,hm⟩ := ajw xs vss k2 h2
  refine ⟨max n m,aao.2 ⟨k1,k2,a,e,?_,?_⟩⟩
  ·have := afE (aov (K := K) (Nat.le_max_left n m)) (K.vw c x) vs [] k1 (by simpa using hn)
   simpa using this
  ·have := agt (aov (K := K) (Nat.le_max_right n m)) xs vss [] k2 (by simpa using hm)
   simpa using this
 | [],_ :: _,_,⟨_,_,_,_,hf,_⟩ =>hf.elim
 | _ :: _,[],_,⟨_,_,_,_,hf,_⟩ =>hf.elim
theorem ayu {n : Nat} {fs : List (Fl K.T K.M)} {vs : List Value} {h : Hp} (s : abk (fsS (pcN K n) fs vs) h) : abk (fsS (pcS K) fs vs) h := by
 have := afE (pc := pcN K n) (pc' := pcS K) (fun f v h hp =>⟨n,hp⟩) fs vs [] h (by simpa using s)
 simpa using this
theorem ahr {c : Nat} {x : K.T c} {q : Nat × Nat} {h : Hp} : obS K c x q h ↔ ∃ vs,abk (pts q.1 q.2 vs :: fsS (pcS K) (K.vw c x) vs) h := by
 constructor
 ·rintro ⟨n,vs,s⟩
  exact ⟨vs,abf (fun _ =>ayu) s⟩
 ·rintro ⟨vs,k1,k2,a,e,hp,hL⟩
  obtain ⟨n,hn⟩ := aiY _ _ _ hL
  exact ⟨n,vs,k1,k2,a,e,hp,hn⟩
theorem abT {c : Nat} {xs : List (K.T c)} {A : Option Addr} {cap : Nat} {h : Hp} : rwS K c xs A cap h ↔ ∃ vss : List (List Value),abk (acC A xs.length cap (K.sz c) vss.flatten :: abx K (pcS K) c xs vss) h := by
 constructor
 ·rintro ⟨n,vs,s⟩
  refine ⟨vs,abf (fun k hk =>?_) s⟩
  have := agt (pc := pcN K n) (pc' := pcS K) (fun f v h hp =>⟨n,hp⟩) xs vs [] k (by simpa using hk)
  simpa using this
 ·rintro ⟨vs,k1,k2,a,e,hp,hL⟩
  obtain ⟨n,hn⟩ := ajw _ _ _ hL
  exact ⟨n,vs,k1,k2,a,e,hp,hn⟩
theorem aaF {f : Fl K.T K.M} {v : Value} {h : Hp} : pcS K f v h ↔ pcW K (obS K) (rwS K) f v h := by
 constructor
 ·rintro ⟨n,hp⟩
  cases n with
  | zero =>exact aif (fun _ _ _ _ h =>h.elim) (fun _ _ _ _ _ h =>h.elim) f v h hp
  | succ n =>exact aif (fun _ _ _ _ h =>⟨n,h⟩) (fun _ _ _ _ _ h =>⟨n,h⟩) f v h hp
 ·intro hp
  cases f with
  | i k x =>exact ⟨0,hp⟩
  | b x =>exact ⟨0,hp⟩
  | c u =>exact ⟨0,hp⟩
  | own c x =>obtain ⟨q,e,n,hq⟩ := hp; exact ⟨n + 1,q,e,hq⟩
  | row c xs =>obtain ⟨A,cap,e,n,hq⟩ := hp; exact ⟨n + 1,A,cap,e,hq⟩
  | ro c xs =>exact ⟨0,hp⟩
  | rr c xss =>exact ⟨0,hp⟩
  | mach m =>
   simp only [pcW] at hp
   split at hp
   ·rename_i e; exact ⟨0,by simp only [pcN,pcW,e]; exact hp⟩
   ·rename_i p e
    obtain ⟨q,e',n,hq⟩ := hp
    exact ⟨n + 1,by simp only [pcN,pcW,e]; exact ⟨q,e',hq⟩⟩
  | o =>exact ⟨0,hp⟩
end
def adK (k : Int) : List MapEntry → Option Value
 | [] =>none
 | e :: es =>match e.key with
  | .int .i64 j =>if k = j then some e.val else adK k es
  | _ =>adK k es
def amH {α : Type} (enc : α → Value) (m : Int → Option α) (es : List MapEntry) : Prop :=
 (∀ e ∈ es,∃ j,e.key = .int .i64 j) ∧ es.Pairwise (fun a b =>a.key ≠ b.key) ∧ ∀ k,adK k es = (m k).map enc
def aAy {α : Type} (enc : α → Value) (m : Int → Option α) (b : Nat) : aag := fun h =>∃ es clock,amH enc m es.toList ∧ aqb b (.map es clock) h
def azn {α : Type} (m : Int → Option α) (k : Int) (x : α) : Int → Option α := fun j =>if j = k then some x else m j
section
variable {P : Program} {w : World} {b : Nat} {clock : Nat} {t kt et : TypeId} {k : Int}
theorem akX {q : IntKind} : ∀ {es : List MapEntry} {i : Nat},(∀ e ∈ es,∃ j,e.key = .int .i64 j) →
  ∃ r,Instr.findNow (.int q) (.int .i64 k) es i = some r ∧ (r = none → adK k es = none) ∧ ∀ j v,r = some (j,v) → i ≤ j ∧ ∃ e,es[j - i]? = some e ∧ e.key = .int .i64 k ∧ e.val = v ∧ adK k es = some v
 | [],i,_ =>⟨none,rfl,fun _ =>rfl,fun j v h =>by cases h⟩
 | e :: es,i,h =>by
  obtain ⟨j,hj⟩ := h e (List.mem_cons_self ..)
  obtain ⟨r,h1,h2,h3⟩ := akX (i := i + 1) (es := es) fun x hx =>h x (List.mem_cons_of_mem _ hx)
  unfold Instr.findNow
  simp only [hj,Instr.sameNow,if_true,adK]
  by_cases hk : k = j
  ·subst hk
   simp only [beq_self_eq_true,if_true]
   refine ⟨_,rfl,fun h =>(by cases h),fun j v h =>?_⟩
   cases h
   exact ⟨Nat.le_refl _,e,by simp,hj,rfl,rfl⟩
  ·have hb : (k == j) = false := by simp [hk]
   simp only [hb,if_neg hk]
   refine ⟨r,h1,h2,fun j v hr =>?_⟩
   obtain ⟨a1,e',a2,a3⟩ := h3 j v hr
   refine ⟨by omega,e',?_,a3⟩
   have : j - i = (j - (i + 1)) + 1 := by omega
   rw [this]; simpa using a2
theorem aoI {emp : Bool} (hk : P.underlying kt = some (.int .i64)) : (Instr.checkKey emp 10000 kt (.int .i64 k)).run P w = .ok () w := by
 rw [show (10000 : Nat) = 9999 + 1 from rfl,Instr.checkKey]
 simp [run_underlying hk,Result.andThen]
theorem arH {es : Array MapEntry} {z : Value} {ok : Bool} (ht : P.underlying t = some (.map kt et)) (hk : P.underlying kt = some (.int .i64)) (hz : (zeroValue et).run P w = .ok z w) (hb : w.heap[b]? = some (.map es clock)) (hr : ∀ e ∈ es.toList,∃ j,e.key = .int .i64 j) :
  (Instr.lookup t (.map (some b)) (.int .i64 k) ok).run P w = .ok (if ok = true then .tuple #[(adK k es.toList).getD z,.bool (adK k es.toList).isSome] else (adK k es.toList).getD z) w := by
 obtain ⟨r,h1,h2,h3⟩ := akX (k := k) (q := .i64) (i := 0) hr
 cases r with
 | none =>
  have e1 := h2 rfl
  rw [e1]
  cases ok <;> simp [Instr.lookup,run_underlying ht,MapKept.run_getObj_map hb,aoI hk,Instr.findKey,run_underlying hk,h1,hz,Result.andThen]
 | some p =>
  obtain ⟨j,v⟩ := p
  obtain ⟨_,e,_,_,_,e1⟩ := h3 j v rfl
  rw [e1]
  cases ok <;> simp [Instr.lookup,run_underlying ht,MapKept.run_getObj_map hb,aoI hk,Instr.findKey,run_underlying hk,h1,Result.andThen]
theorem ahB : ∀ {es : List MapEntry},adK k es = none → ∀ e ∈ es,e.key ≠ .int .i64 k
 | [],_,e,he =>by cases he
 | x :: es,h,e,he =>by
  unfold adK at h
  rcases List.mem_cons.1 he with rfl | he
  ·intro hk
   rw [hk] at h
   simp at h
  ·split at h
   ·split at h
    ·cases h
    ·exact ahB h e he
   ·exact ahB h e he
theorem ai0 : ∀ {es l : List MapEntry} {j : Int},adK j (es ++ l) = match adK j es with
  | some v =>some v
  | none =>adK j l
 | [],l,j =>rfl
 | x :: es,l,j =>by
  simp only [List.cons_append,adK]
  split
  ·split
   ·rfl
   ·exact ai0
  ·exact ai0
theorem aoz {v : Value} : ∀ {es : List MapEntry} {i : Nat} {e : MapEntry} {j : Int},es.Pairwise (fun a b =>a.key ≠ b.key) → es[i]? = some e → e.key = .int .i64 k →
  adK j (es.modify i fun e =>{ e with key := .int .i64 k,val := v }) = if j = k then some v else adK j es
 | [],i,e,j,_,h,_ =>by simp at h
 | x :: es,0,e,j,hp,h,hk =>by
  simp at h; subst h
  simp only [List.modify_zero_cons,adK,hk]
  by_cases hj : j = k
  ·rw [if_pos hj,if_pos hj]
  ·rw [if_neg hj,if_neg hj,if_neg hj]
 | x :: es,i + 1,e,j,hp,h,hk =>by
  rw [List.pairwise_cons] at hp
  have ih := aoz (v := v) (j := j) hp.2 (by simpa using h) hk
  have hx : x.key ≠ .int .i64 k := fun hx =>hp.1 e (List.mem_of_getElem? (by simpa using h)) (hx.trans hk.symm)
  simp only [List.modify_succ_cons,adK]
  split
  ·rename_i a ha
   by_cases hja : j = a
   ·rw [if_pos hja,if_pos hja,if_neg]
    intro e1; apply hx; rw [ha,← hja,e1]
   ·rw [if_neg hja,if_neg hja]; exact ih
  ·exact ih
theorem akN {v : Value} : ∀ {es : List MapEntry} {i : Nat} {e : MapEntry},es[i]? = some e → e.key = .int .i64 k →
  (es.modify i fun e =>{ e with key := .int .i64 k,val := v }).map (·.key) = es.map (·.key)
 | [],i,e,h,_ =>by simp at h
 | x :: es,0,e,h,hk =>by simp at h; subst h; simp [hk]
 | x :: es,i + 1,e,h,hk =>by
  have ih := akN (v := v) (es := es) (i := i) (by simpa using h) hk
  simp only [List.modify_succ_cons,List.map_cons,ih]
theorem arR {es fs : List MapEntry} (h : fs.map (·.key) = es.map (·.key)) (hp : es.Pairwise (fun a b =>a.key ≠ b.key)) : fs.Pairwise (fun a b =>a.key ≠ b.key) := by
 have h1 : (es.map (·.key)).Pairwise (· ≠ ·) := List.pairwise_map.2 hp
 rw [← h] at h1
 exact List.pairwise_map.1 h1
theorem auc {es fs : List MapEntry} (h : fs.map (·.key) = es.map (·.key)) (hp : ∀ e ∈ es,∃ j,e.key = .int .i64 j) : ∀ e ∈ fs,∃ j,e.key = .int .i64 j := fun e he =>by
 have : e.key ∈ es.map (·.key) := by rw [← h]; exact List.mem_map_of_mem he
 obtain ⟨x,hx,e1⟩ := List.mem_map.1 this
 rw [← e1]; exact hp x hx
theorem atM {α : Type} {enc : α → Value} {m : Int → Option α} {x : α} {es : Array MapEntry} (ht : P.underlying t = some (.map kt et)) (hk : P.underlying kt = some (.int .i64)) (hb : w.heap[b]? = some (.map es clock)) (hr : amH enc m es.toList) :
  ∃ es' clock',(Instr.mapUpdate t (.map (some b)) (.int .i64 k) (enc x)).run P w = .ok () (w.putObj b (.map es' clock')) ∧ amH enc (azn m k x) es'.toList := by
 obtain ⟨r1,r2,r3⟩ := hr
 obtain ⟨r,h1,h2,h3⟩ := akX (k := k) (q := .i64) (i := 0) r1
 cases r with
 | none =>
  have e1 := h2 rfl
  refine ⟨es.push ⟨.int .i64 k,enc x,clock⟩,clock + 1,?_,?_,?_,fun j =>?_⟩
  ·simp [Instr.mapUpdate,run_underlying ht,MapKept.run_getObj_map hb,aoI hk,Instr.findKey,run_underlying hk,h1,MapKept.run_setObj_map _ hb,Result.andThen,World.putObj]
  ·intro e he
   rw [Array.toList_push] at he
   rcases List.mem_append.1 he with he | he
   ·exact r1 e he
   ·rw [List.mem_singleton.1 he]; exact ⟨k,rfl⟩
  ·rw [Array.toList_push,List.pairwise_append]
   refine ⟨r2,by simp,fun a ha c hc =>?_⟩
   rw [List.mem_singleton.1 hc]
   exact ahB e1 a ha
  ·rw [Array.toList_push,ai0]
   show _ = Option.map enc (if j = k then some x else m j)
   by_cases hj : j = k
   ·rw [if_pos hj,hj,e1]
    simp [adK]
   ·rw [if_neg hj,← r3 j]
    cases adK j es.toList with
    | some v =>rfl
    | none =>simp [adK,hj]
 | some p =>
  obtain ⟨i,v⟩ := p
  obtain ⟨_,e,a1,a2,a3,a4⟩ := h3 i v rfl
  simp only [Nat.sub_zero] at a1
  have ai : es[i]? = some e := by rw [← Array.getElem?_toList]; exact a1
  have hs : Instr.sameBits 10000 (.int .i64 k) (.int .i64 k) = true := by simp [Instr.sameBits]
  refine ⟨es.modify i fun e =>{ e with key := .int .i64 k,val := enc x },clock,?_,?_,?_,fun j =>?_⟩
  ·simp [Instr.mapUpdate,run_underlying ht,MapKept.run_getObj_map hb,aoI hk,Instr.findKey,run_underlying hk,h1,ai,a2,Instr.keyThatStays,hs,MapKept.run_setObj_map _ hb,Result.andThen,World.putObj]
  ·rw [Array.toList_modify]; exact auc (akN a1 a2) r1
  ·rw [Array.toList_modify]; exact arR (akN a1 a2) r2
  ·rw [Array.toList_modify,aoz r2 a1 a2]
   show _ = Option.map enc (if j = k then some x else m j)
   by_cases hj : j = k
   ·rw [if_pos hj,if_pos hj]; rfl
   ·rw [if_neg hj,if_neg hj]; exact r3 j
end
inductive Fd (T : Nat → Type) (M : Type) where
 | v (x : V)
 | f (x : Fl T M)
inductive Ch (T : Nat → Type) (M : Type) where
 | cells (fs : List (Fd T M))
 | row (c : Nat) (xs : List (T c))
 | ro (c : Nat) (xs : List (T c))
 | rr (c : Nat) (xss : List (List (T c)))
 | elt (j : Nat) (i : Int) (sz : Nat)
 | arr (m sz : Nat) (vs : List V)
 | mach (m : M)
 | any (A : aag)
 | hole (c : Nat) (xs : List (T c)) (i : Int) (o : Nat) (u : V)
 | gap (c : Nat) (xs : List (T c)) (i : Int) (e : Nat)
 | slc (e m sz : Nat)
 | fm (l : List (Int × FuncId)) (o : Nat)
section
variable (K : KT)
abbrev KT.D := Fd K.T K.M
abbrev KT.C := Ch K.T K.M
abbrev KT.H := List (Nat × Ch K.T K.M)
def fS (ρ : Env) : Fd K.T K.M → Value → aag
 | .v x,v =>ah4 (v = aar ρ x)
 | .f x,v =>pcS K x v
def anW (ρ : Env) (id j sz : Nat) (i : Int) : Prop := (0 ≤ i ∧ i < ((ρ.s j).n : Int)) ∧ ∃ b o,(ρ.s j).a = some ⟨b,o,none⟩ ∧ ρ.p id = (b,o + i.toNat * sz)
def aAI (A : Option Addr) (n cap c : Nat) (xs : List (K.T c)) (i : Int) (q : Nat × Nat) : aag := fun h =>∃ (b o : Nat) (vss : List (List Value)) (spare : List Value) (N : List aag),(0 ≤ i ∧ i < (xs.length : Int)) ∧ (A = some ⟨b,o,none⟩ ∧ n = xs.length ∧ q = (b,o + i.toNat * K.sz c)) ∧ (vss.length = xs.length ∧ ∀ v ∈ vss,v.length = K.sz c) ∧
 (xs.length ≤ cap ∧ cap ≤ maxLen ∧ spare.length = (cap - xs.length) * K.sz c) ∧ (∀ x' vs',(abx K (pcS K) c (xs.set i.toNat x') (vss.set i.toNat vs')).Perm (fsS (pcS K) (K.vw c x') vs' ++ N)) ∧
 abk (pts b o (vss.flatten.take (i.toNat * K.sz c)) :: pts b (o + i.toNat * K.sz c + K.sz c) (vss.flatten.drop (i.toNat * K.sz c + K.sz c) ++ spare) :: N) h
def az1 (A : Option Addr) (cap c : Nat) (xs : List (K.T c)) (i : Int) (o : Nat) (v : Value) : aag := fun h =>∃ (x : K.T c) (vss : List (List Value)) (vs : List Value) (N : List aag),
 (xs[i.toNat]? = some x ∧ vss[i.toNat]? = some vs ∧ vs[o]? = some v) ∧ (∀ x',(abx K (pcS K) c (xs.set i.toNat x') vss).Perm (fsS (pcS K) (K.vw c x') vs ++ N)) ∧ o < (K.vw c x).length ∧
 abk (acC A xs.length cap (K.sz c) vss.flatten :: (fsS (pcS K) ((K.vw c x).eraseIdx o) (vs.eraseIdx o) ++ N)) h
def fmF (p : Value) : List (Int × FuncId) → Int → Option Value
 | [],_ =>none
 | x :: l,k =>if k = x.1 then some (.func (.func x.2) #[p] #[]) else fmF p l k
def abM (ρ : Env) (id : Nat) : Ch K.T K.M → aag
 | .cells fs =>exL fun vs : List Value =>pts (ρ.p id).1 (ρ.p id).2 vs :: fsS (fS K ρ) fs vs
 | .row c xs =>fun h =>(ρ.s id).n = xs.length ∧ rwS K c xs (ρ.s id).a (ρ.s id).c h
 | .ro c xs =>fun h =>(ρ.s id).n = xs.length ∧ roS (ac0 K c) (K.sz c) (ρ.s id).a (ρ.s id).c xs h
 | .rr c xss =>fun h =>(ρ.s id).n = xss.length ∧ rrS (ac0 K c) (K.sz c) (ρ.s id).a (ρ.s id).c xss h
 | .elt j i sz =>ah4 (anW ρ id j sz i)
 | .arr m sz vs =>fun h =>(ρ.s id = ⟨some ⟨(ρ.p id).1,(ρ.p id).2,none⟩,m,m⟩ ∧ vs.length = m * sz ∧ m ≤ maxLen) ∧ pts (ρ.p id).1 (ρ.p id).2 (aam ρ vs) h
 | .mach m =>pcS K (.mach m) (ρ.v id)
 | .any A =>A
 | .hole c xs i o u =>fun h =>(ρ.s id).n = xs.length ∧ az1 K (ρ.s id).a (ρ.s id).c c xs i o (aar ρ u) h
 | .gap c xs i e =>aAI K (ρ.s id).a (ρ.s id).n (ρ.s id).c c xs i (ρ.p e)
 | .slc e m sz =>fun h =>((ρ.s id).a = some ⟨(ρ.p e).1,(ρ.p e).2,none⟩ ∧ (ρ.s id).n = m ∧ m ≤ (ρ.s id).c ∧ (ρ.s id).c ≤ maxLen) ∧ ∃ spare : List Value,spare.length = ((ρ.s id).c - m) * sz ∧ pts (ρ.p e).1 ((ρ.p e).2 + m * sz) spare h
 | .fm l o =>fun h =>∃ b,ρ.v id = .map (some b) ∧ aAy (fun v : Value =>v) (fmF (aar ρ (.ptr o 0)) l) b h
def dH (ρ : Env) (H : KT.H K) : List aag := H.map fun p =>abM K ρ p.1 p.2
end
section
variable {T : Nat → Type} {M : Type}
def auT : Fd T M → Nat
 | .v x =>aeW x
 | .f _ =>0
def agn : List (Fd T M) → Nat
 | [] =>0
 | f :: fs =>mx (auT f) (agn fs)
def amO : Ch T M → Nat
 | .cells fs =>agn fs
 | .elt j _ _ =>j + 1
 | .arr _ _ vs =>aem vs
 | .hole _ _ _ _ u =>aeW u
 | .gap _ _ _ e =>e + 1
 | .slc e _ _ =>e + 1
 | .fm _ o =>o + 1
 | _ =>0
def ac8 : List (Nat × Ch T M) → Nat
 | [] =>0
 | p :: H =>mx (mx (p.1 + 1) (amO p.2)) (ac8 H)
theorem agT {a b n : Nat} (h : mx a b ≤ n) : a ≤ n ∧ b ≤ n := ⟨Nat.le_trans axg h,Nat.le_trans au6 h⟩
end
section
variable {K : KT} {ρ ρ' : Env} {n : Nat}
theorem aup (h : aau n ρ ρ') (f : Fd K.T K.M) (hn : auT f ≤ n) : fS K ρ f = fS K ρ' f := by
 cases f with
 | v x =>funext v; simp only [fS,aa5 h x hn]
 | f x =>rfl
theorem aiZ (h : aau n ρ ρ') : ∀ (fs : List (Fd K.T K.M)) (vs : List Value),agn fs ≤ n → fsS (fS K ρ) fs vs = fsS (fS K ρ') fs vs
 | [],[],_ =>rfl
 | f :: fs,v :: vs,hn =>by
  simp only [agn] at hn
  simp only [fsS,aup h f (agT hn).1,aiZ h fs vs (agT hn).2]
 | [],_ :: _,_ =>rfl
 | _ :: _,[],_ =>rfl
theorem acA (h : aau n ρ ρ') {id : Nat} (hid : id < n) (c : Ch K.T K.M) (hn : amO c ≤ n) : abM K ρ id c = abM K ρ' id c := by
 cases c with
 | cells fs =>
  simp only [amO] at hn
  simp only [abM,(h id hid).1]
  congr 1
  funext vs
  rw [aiZ h fs vs hn]
 | row c xs =>simp only [abM,(h id hid).2.1]
 | ro c xs =>simp only [abM,(h id hid).2.1]
 | rr c xs =>simp only [abM,(h id hid).2.1]
 | elt j i sz =>simp only [amO] at hn; simp only [abM,anW,(h id hid).1,(h j (by omega)).2.1]
 | arr m sz vs =>simp only [amO] at hn; simp only [abM,(h id hid).1,(h id hid).2.1,acf h vs hn]
 | mach m =>simp only [abM,(h id hid).2.2]
 | any A =>rfl
 | hole c xs i o u =>simp only [amO] at hn; simp only [abM,(h id hid).2.1,aa5 h u hn]
 | gap c xs i e =>simp only [amO] at hn; simp only [abM,(h id hid).2.1,(h e (by omega)).1]
 | slc e m sz =>simp only [amO] at hn; simp only [abM,(h id hid).2.1,(h e (by omega)).1]
 | fm l o =>simp only [amO] at hn; simp only [abM,aar,(h id hid).2.2,(h o (by omega)).1]
theorem abv (h : aau n ρ ρ') : ∀ H : KT.H K,ac8 H ≤ n → dH K ρ H = dH K ρ' H
 | [],_ =>rfl
 | p :: H,hn =>by
  simp only [ac8] at hn
  have h1 := agT (agT hn).1
  show abM K ρ p.1 p.2 :: dH K ρ H = abM K ρ' p.1 p.2 :: dH K ρ' H
  rw [abv h H (agT hn).2,acA h h1.1 _ h1.2]
theorem ak5 {id : Nat} {L : List aag} : ∀ {H : KT.H K},Ent (dH K ρ H ++ L) (dH K ρ (del H id) ++ L)
 | [] =>Ent.refl
 | (t,c) :: H =>by
  unfold del
  split
  ·exact Ent.drop.trans ak5
  ·exact Ent.cons (fun _ h =>h) ak5
theorem aaI {id : Nat} {c : Ch K.T K.M} {L : List aag} : ∀ {H : KT.H K},get H id = some c → Ent (dH K ρ H ++ L) (abM K ρ id c :: (dH K ρ (del H id) ++ L))
 | [],h =>by cases h
 | (t,c') :: H,h =>by
  unfold get at h
  unfold del
  split at h
  ·rename_i e
   have e' : t = id := Nat.eq_of_beq_eq_true e
   simp only [Option.some.injEq] at h
   subst e' h
   exact Ent.cons (fun _ h =>h) ak5
  ·have ih := aaI (L := L) (H := H) h
   exact (Ent.cons (A := abM K ρ t c') (fun _ h =>h) ih).trans (Ent.perm (List.Perm.swap ..))
theorem aql {fs : List (Fd K.T K.M)} {i : Nat} {f : Fd K.T K.M} (h : fs[i]? = some f) : auT f ≤ agn fs := by
 induction fs generalizing i with
 | nil =>cases h
 | cons g fs ih =>
  cases i with
  | zero =>simp at h; subst h; exact axg
  | succ i =>exact Nat.le_trans (ih (by simpa using h)) au6
theorem aen {id : Nat} {c : Ch K.T K.M} : ∀ {H : KT.H K},get H id = some c → id < ac8 H ∧ amO c ≤ ac8 H
 | [],h =>by cases h
 | (t,c') :: H,h =>by
  unfold get at h
  have hm := agT (Nat.le_refl (ac8 ((t,c') :: H)))
  split at h
  ·rename_i e
   have e' : t = id := Nat.eq_of_beq_eq_true e
   simp only [Option.some.injEq] at h
   subst e' h
   exact ⟨(agT hm.1).1,(agT hm.1).2⟩
  ·have := aen h
   exact ⟨Nat.lt_of_lt_of_le this.1 hm.2,Nat.le_trans this.2 hm.2⟩
theorem acN {id : Nat} : ∀ {H : KT.H K},ac8 (del H id) ≤ ac8 H
 | [] =>Nat.le_refl _
 | (t,c) :: H =>by
  unfold del
  split
  ·exact Nat.le_trans acN au6
  ·exact ajk ⟨axg,Nat.le_trans acN au6⟩
theorem afD {F : Type} {pc : F → Value → aag} : ∀ {fs : List F} {vs : List Value} {i : Nat} {f : F} {v : Value},fs[i]? = some f → vs[i]? = some v →
  (fsS pc fs vs).Perm (pc f v :: fsS pc (fs.eraseIdx i) (vs.eraseIdx i)) ∧ ∀ f' v',(fsS pc (fs.set i f') (vs.set i v')).Perm (pc f' v' :: fsS pc (fs.eraseIdx i) (vs.eraseIdx i))
 | [],_,_,_,_,h,_ =>by cases h
 | _ :: _,[],_,_,_,_,h =>by cases h
 | g :: fs,u :: vs,0,f,v,h,h' =>by
  simp at h h'; subst h h'
  exact ⟨.refl _,fun _ _ =>.refl _⟩
 | g :: fs,u :: vs,i + 1,f,v,h,h' =>by
  obtain ⟨h1,h2⟩ := afD (pc := pc) (fs := fs) (vs := vs) (i := i) (by simpa using h) (by simpa using h')
  exact ⟨(h1.cons _).trans (.swap ..),fun f' v' =>((h2 f' v').cons _).trans (.swap ..)⟩
theorem ain {K : KT} : ∀ {fs : List (Fd K.T K.M)} {i : Nat},agn (fs.eraseIdx i) ≤ agn fs
 | [],_ =>Nat.le_refl _
 | _ :: _,0 =>au6
 | _ :: _,_ + 1 =>ajk ⟨axg,Nat.le_trans ain au6⟩
theorem akg {α : Type} {l : List α} {i : Nat} {a : α} (h : l[i]? = some a) : l.set i a = l := by
 obtain ⟨hlt,rfl⟩ := List.getElem?_eq_some_iff.1 h
 simp
theorem anw {F : Type} {pc : F → Value → aag} : ∀ {fs : List F} {vs : List Value} {L : List aag} {h : Hp},abk (fsS pc fs vs ++ L) h → fs.length = vs.length
 | [],[],_,_,_ =>rfl
 | _ :: fs,_ :: vs,L,_,⟨_,_,_,_,_,s⟩ =>by simp [anw s]
 | [],_ :: _,_,_,⟨_,_,_,_,hf,_⟩ =>hf.elim
 | _ :: _,[],_,_,⟨_,_,_,_,hf,_⟩ =>hf.elim
theorem ae1 {F : Type} {pc : F → Value → aag} {fs : List F} {vs : List Value} {B : Nat} {w : World} {A : aag} {L : List aag} (s : Sat B w (A :: (fsS pc fs vs ++ L))) : fs.length = vs.length := by
 obtain ⟨h,_,k1,k2,_,_,_,hL⟩ := s
 exact anw hL
theorem Sat.pure {B : Nat} {w : World} {p : Prop} {L : List aag} (s : Sat B w (ah4 p :: L)) : p := by
 obtain ⟨h,_,k1,k2,_,_,hA,_⟩ := s
 exact hA
theorem auK {B : Nat} {w : World} {H : KT.H K} {X : List aag} {id o : Nat} {fs : List (Fd K.T K.M)} {f : Fd K.T K.M} (s : Sat B w (dH K ρ H ++ X)) (hg : get H id = some (.cells fs)) (hf : fs[o]? = some f) :
  ∃ vs v,vs[o]? = some v ∧ fs.length = vs.length ∧ Sat B w (pts (ρ.p id).1 (ρ.p id).2 vs :: (fsS (fS K ρ) fs vs ++ (dH K ρ (del H id) ++ X))) ∧ w.cell? ⟨(ρ.p id).1,(ρ.p id).2 + o,none⟩ = some v := by
 have s1 := s.imp (aaI (ρ := ρ) hg)
 obtain ⟨vs,s2⟩ := adN s1
 have hl := ae1 s2
 have ho : o < vs.length := by rw [← hl]; exact (List.getElem?_eq_some_iff.1 hf).1
 exact ⟨vs,vs[o],List.getElem?_eq_getElem ho,hl,s2,(s2.cell (List.getElem?_eq_getElem ho)).2.1⟩
theorem aqz {B : Nat} {w : World} {A P : aag} {X Y L : List aag} (s : Sat B w (A :: (X ++ L))) (p : X.Perm (P :: Y)) : Sat B w (P :: A :: (Y ++ L)) :=
 s.perm ((List.Perm.cons _ (p.append_right L)).trans (List.Perm.swap ..))
end
def Env.setP (ρ : Env) (n : Nat) (q : Nat × Nat) : Env := { ρ with p := fun i =>if i = n then q else ρ.p i }
def Env.setS (ρ : Env) (n : Nat) (q : Sle) : Env := { ρ with s := fun i =>if i = n then q else ρ.s i }
def Env.setV (ρ : Env) (n : Nat) (q : Value) : Env := { ρ with v := fun i =>if i = n then q else ρ.v i }
theorem aej (ρ : Env) (n : Nat) (q : Nat × Nat) : aau n ρ (ρ.setP n q) := fun k hk =>⟨by simp only [Env.setP]; rw [if_neg (by omega)],rfl,rfl⟩
theorem aby (ρ : Env) (n : Nat) (q : Sle) : aau n ρ (ρ.setS n q) := fun k hk =>⟨rfl,by simp only [Env.setS]; rw [if_neg (by omega)],rfl⟩
theorem ahJ (ρ : Env) (n : Nat) (q : Value) : aau n ρ (ρ.setV n q) := fun k hk =>⟨rfl,rfl,by simp only [Env.setV]; rw [if_neg (by omega)]⟩
section
variable {T : Nat → Type} {M : Type}
def opF (vw : (c : Nat) → T c → List (Fl T M)) (n : Nat) : Fd T M → V × Option (Ch T M)
 | .v x =>(x,none)
 | .f (.i k x) =>(.i k x,none)
 | .f (.b x) =>(.b x,none)
 | .f (.c u) =>(as0 u,none)
 | .f (.own c x) =>(.ptr n 0,some (.cells ((vw c x).map .f)))
 | .f (.row c xs) =>(.sl n,some (.row c xs))
 | .f (.ro c xs) =>(.sl n,some (.ro c xs))
 | .f (.rr c xs) =>(.sl n,some (.rr c xs))
 | .f (.mach m) =>(.mc n,some (.mach m))
 | .f .o =>(.mc n,some (.any fun _ =>True))
end
section
variable {K : KT}
theorem aiW (pc : Fl K.T K.M → Value → aag) (pc' : Fd K.T K.M → Value → aag) (h : ∀ x v,pc' (.f x) v = pc x v) : ∀ (l : List (Fl K.T K.M)) (vs : List Value),fsS pc' (l.map .f) vs = fsS pc l vs
 | [],[] =>rfl
 | f :: fs,v :: vs =>by simp only [List.map_cons,fsS,h,aiW pc pc' h fs vs]
 | [],_ :: _ =>rfl
 | _ :: _,[] =>rfl
theorem auC (u : Value) : aeW (as0 u) = 0 := by cases u <;> rfl
theorem ary {ρ : Env} {n : Nat} {f : Fd K.T K.M} {v : Value} {k : Hp} (hn : auT f ≤ n) (h : fS K ρ f v k) :
  ∃ ρ',aau n ρ ρ' ∧ v = aar ρ' (opF K.vw n f).1 ∧ (match (opF K.vw n f).2 with | none =>True | some c =>abM K ρ' n c k) := by
 cases f with
 | v x =>exact ⟨ρ,aau.refl _ _,h,trivial⟩
 | f x =>
  have h2 : pcS K x v k := h
  rw [aaF] at h2
  cases x with
  | i k x =>exact ⟨ρ,aau.refl _ _,h2,trivial⟩
  | b x =>exact ⟨ρ,aau.refl _ _,h2,trivial⟩
  | c u =>exact ⟨ρ,aau.refl _ _,by rw [opF,aeG]; exact h2,trivial⟩
  | own c x =>
   obtain ⟨q,e,ho⟩ := h2
   refine ⟨ρ.setP n q,aej _ _ _,?_,?_⟩
   ·rw [e]; simp [opF,aar,Env.setP]
   ·rw [ahr] at ho
    obtain ⟨vs,s⟩ := ho
    refine ⟨vs,?_⟩
    simp only [Env.setP,if_true]
    rw [aiW (pcS K) _ (fun x v =>rfl)]
    exact s
  | row c xs =>
   obtain ⟨A,cap,e,ho⟩ := h2
   refine ⟨ρ.setS n ⟨A,xs.length,cap⟩,aby _ _ _,?_,?_,?_⟩
   ·rw [e]; simp [opF,aar,Env.setS]
   ·simp [Env.setS]
   ·simpa [Env.setS] using ho
  | ro c xs =>
   obtain ⟨A,cap,e,ho⟩ := h2
   refine ⟨ρ.setS n ⟨A,xs.length,cap⟩,aby _ _ _,?_,?_,?_⟩
   ·rw [e]; simp [opF,aar,Env.setS]
   ·simp [Env.setS]
   ·simpa [Env.setS] using ho
  | rr c xs =>
   obtain ⟨A,cap,e,ho⟩ := h2
   refine ⟨ρ.setS n ⟨A,xs.length,cap⟩,aby _ _ _,?_,?_,?_⟩
   ·rw [e]; simp [opF,aar,Env.setS]
   ·simp [Env.setS]
   ·simpa [Env.setS] using ho
  | mach m =>
   refine ⟨ρ.setV n v,ahJ _ _ _,?_,?_⟩
   ·simp [opF,aar,Env.setV]
   ·simp only [opF,abM,Env.setV,if_true]
    exact h
  | o =>exact ⟨ρ.setV n v,ahJ _ _ _,by simp [opF,aar,Env.setV],trivial⟩
theorem aet {n : Nat} {f : Fd K.T K.M} (hn : auT f ≤ n) : aeW (opF K.vw n f).1 ≤ n + 1 ∧ (∀ c,(opF K.vw n f).2 = some c → amO c ≤ n) := by
 cases f with
 | v x =>exact ⟨Nat.le_succ_of_le hn,fun c h =>by cases h⟩
 | f x =>
  cases x <;> refine ⟨?_,fun c h =>?_⟩ <;> simp only [opF,aeW,auC] at * <;> first | omega | (cases h; done) | (cases h; simp only [amO]) <;> try omega
  ·rename_i c x
   have : ∀ l : List (Fl K.T K.M),agn (l.map (Fd.f : Fl K.T K.M → Fd K.T K.M)) = 0 := fun l =>by
    induction l with
    | nil =>rfl
    | cons y l ih =>simp only [List.map_cons,agn,ih,auT]; rfl
   rw [this]; omega
end
end
end Go.Proofs.YtkmkhldmflebkaaGreat
