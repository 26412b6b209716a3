/- Evaluation by itself, 1: symbolic values, registers, operations on registers alone. No program occurs here. Evaluation by itself, 2: operations on registers alone. No program occurs here. Objects that are owned; a range over a function whose rounds are told what lies at their argument. No program occurs here. What a call has made and hands back, held to be read: no program occurs here. What is held to be read by many; rows of things that hold a list of numbers; entailments in the world. No program occurs here. Rows of things each of which holds a list of numbers that is only read. No program occurs here. The reference's data: memories, records, frames, events; how they lie; words for what its functions answer. No program occurs here. Evaluation by itself, 3: what lies in memory: fields, objects, rows. No program occurs here. Evaluation by itself, 4: what is held, by numbers; fields opened; cells read and written. No program occurs here. -/
import Derived.Test.YtlcelajkhklkbaaGreatAqaa
import Derived.Laws.StructEq
import Derived.ChangeKeysEq
import Derived.RangeFuncFrom
import Derived.RangeFuncLeaves
import Derived.RangeFuncBound
set_option linter.all false
namespace Go.Proofs.YtlcelajkhklkbaaGreat
section
open Go Go.RowKit
structure Sle where
  a : Option Addr
  n : Nat
  c : Nat
structure Env where
  p : Nat → Nat × Nat
  s : Nat → Sle
  v : Nat → Value
inductive V where
  | i (k : IntKind) (x : Int)
  | l (k : IntKind) (x : Int)
  | p (P : Prop) (d : Decidable P)
  | b (x : Bool)
  | t (x : Bool)
  | c (v : Value)
  | ptr (id o : Nat)
  | sl (id : Nat)
  | vw (id o m c : Nat)
  | vs (id o : Nat) (k : Int) (c : Nat)
  | mc (id : Nat)
  | agg (l : List V)
  | tup (l : List V)
  | fn (f : FuncId) (l : List V)
  | ifc (t : TypeId) (v : V)
mutual
def aay (ρ : Env) : V → Value
  | .i k x => .int k x
  | .l k x => .int k x
  | .p P d => .bool (@decide P d)
  | .b x => .bool x
  | .t x => .bool x
  | .c v => v
  | .ptr id o => .pointer (some ⟨(ρ.p id).1, (ρ.p id).2 + o, none⟩)
  | .sl id => .slice (ρ.s id).a (ρ.s id).n (ρ.s id).c
  | .vw id o m c => .slice (some ⟨(ρ.p id).1, (ρ.p id).2 + o, none⟩) m c
  | .vs id o k c => .slice (some ⟨(ρ.p id).1, (ρ.p id).2 + o, none⟩) k.toNat c
  | .mc id => ρ.v id
  | .agg l => .agg (aam ρ l).toArray
  | .tup l => .tuple (aam ρ l).toArray
  | .fn f l => .func (.func f) #[] (aam ρ l).toArray
  | .ifc t v => .iface t (aay ρ v)
termination_by structural v => v
def aam (ρ : Env) : List V → List Value
  | [] => []
  | v :: l => aay ρ v :: aam ρ l
termination_by structural l => l
end
def ady {α : Type} (n : Nat) (k : Nat → α) : α := match n with
  | 0 => k 0
  | m + 1 => k (m + 1)
theorem acn {α : Type} (n : Nat) (k : Nat → α) : ady n k = k n := by cases n <;> rfl
def mx (a b : Nat) : Nat := ady a fun a => ady b fun b => Nat.max a b
theorem axg (a b : Nat) : mx a b = Nat.max a b := by unfold mx; rw [acn, acn]
theorem axX {a b : Nat} : a ≤ mx a b := by rw [axg]; exact Nat.le_max_left ..
theorem avN {a b : Nat} : b ≤ mx a b := by rw [axg]; exact Nat.le_max_right ..
theorem amJ {a b n : Nat} (h : a ≤ n ∧ b ≤ n) : mx a b ≤ n := by rw [axg]; exact Nat.max_le.2 h
mutual
def ahH : V → Nat
  | .ptr id _ => id + 1
  | .sl id => id + 1
  | .vw id _ _ _ => id + 1
  | .vs id _ _ _ => id + 1
  | .mc id => id + 1
  | .agg l => agS l
  | .tup l => agS l
  | .fn _ l => agS l
  | .ifc _ v => ahH v
  | _ => 0
termination_by structural v => v
def agS : List V → Nat
  | [] => 0
  | v :: l => mx (ahH v) (agS l)
termination_by structural l => l
end
example (x : Int) : agS [.agg [.ptr 3 0, .i .i64 x]] = 4 := rfl
example (x : Int) : agS [.agg [.ptr 3 0, .i .i64 x]] = 4 := by kernel_rfl
def aaz (n : Nat) (ρ ρ' : Env) : Prop := ∀ k, k < n → ρ.p k = ρ'.p k ∧ ρ.s k = ρ'.s k ∧ ρ.v k = ρ'.v k
theorem aaz.refl (n : Nat) (ρ : Env) : aaz n ρ ρ := fun _ _ => ⟨rfl, rfl, rfl⟩
theorem aaz.trans {n m : Nat} {ρ ρ' ρ'' : Env} (h : aaz n ρ ρ') (h' : aaz m ρ' ρ'') (hle : n ≤ m) : aaz n ρ ρ'' := fun k hk => ⟨(h k hk).1.trans (h' k (by omega)).1, (h k hk).2.1.trans (h' k (by omega)).2.1, (h k hk).2.2.trans (h' k (by omega)).2.2⟩
theorem aaz.le {n m : Nat} {ρ ρ' : Env} (h : aaz n ρ ρ') (hle : m ≤ n) : aaz m ρ ρ' := fun k hk => h k (by omega)
mutual
theorem aa0 {ρ ρ' : Env} {n : Nat} (h : aaz n ρ ρ') : ∀ v : V, ahH v ≤ n → aay ρ v = aay ρ' v
  | .i .., _ => by simp only [aay]
  | .l .., _ => by simp only [aay]
  | .p .., _ => by simp only [aay]
  | .b .., _ => by simp only [aay]
  | .t .., _ => by simp only [aay]
  | .c .., _ => by simp only [aay]
  | .ptr id o, hn => by simp only [ahH] at hn; simp only [aay, (h id (by omega)).1]
  | .sl id, hn => by simp only [ahH] at hn; simp only [aay, (h id (by omega)).2.1]
  | .vw id o m c, hn => by simp only [ahH] at hn; simp only [aay, (h id (by omega)).1]
  | .vs id o k c, hn => by simp only [ahH] at hn; simp only [aay, (h id (by omega)).1]
  | .mc id, hn => by simp only [ahH] at hn; simp only [aay, (h id (by omega)).2.2]
  | .agg l, hn => by simp only [ahH] at hn; simp only [aay, ac8 h l hn]
  | .tup l, hn => by simp only [ahH] at hn; simp only [aay, ac8 h l hn]
  | .fn f l, hn => by simp only [ahH] at hn; simp only [aay, ac8 h l hn]
  | .ifc t v, hn => by simp only [ahH] at hn; simp only [aay, aa0 h v hn]
theorem ac8 {ρ ρ' : Env} {n : Nat} (h : aaz n ρ ρ') : ∀ l : List V, agS l ≤ n → aam ρ l = aam ρ' l
  | [], _ => by simp only [aam]
  | v :: l, hn => by
    simp only [agS] at hn
    have h1 : ahH v ≤ n := Nat.le_trans axX hn
    have h2 : agS l ≤ n := Nat.le_trans avN hn
    simp only [aam, aa0 h v h1, ac8 h l h2]
end
theorem aaN {ρ : Env} (l : List V) : aam ρ l = l.map (aay ρ) := by
  induction l with
  | nil => rfl
  | cons v l ih => rw [aam, ih]; rfl
theorem ami {ρ : Env} (l m : List V) : aam ρ (l ++ m) = aam ρ l ++ aam ρ m := by simp [aaN]
abbrev aaV := List (Nat × V)
def get {α : Type} : List (Nat × α) → Nat → Option α
  | [], _ => none
  | (t, v) :: R, k => match Nat.beq t k with
    | true => some v
    | false => get R k
def del {α : Type} : List (Nat × α) → Nat → List (Nat × α)
  | [], _ => []
  | (t, v) :: R, k => match Nat.beq t k with
    | true => del R k
    | false => (t, v) :: del R k
theorem ap5 {α : Type} {k : Nat} {v : α} : ∀ {R : List (Nat × α)}, get R k = some v → (k, v) ∈ R
  | [], h => by cases h
  | (t, u) :: R, h => by
    unfold get at h
    split at h
    · rename_i e
      have e' : t = k := Nat.eq_of_beq_eq_true e
      simp only [Option.some.injEq] at h
      subst e' h
      exact List.mem_cons_self ..
    · exact List.mem_cons_of_mem _ (ap5 h)
theorem ag8 {α : Type} {k : Nat} {p : Nat × α} : ∀ {R : List (Nat × α)}, p ∈ del R k → p ∈ R ∧ p.1 ≠ k
  | [], h => by cases h
  | (t, u) :: R, h => by
    unfold del at h
    split at h
    · exact ⟨List.mem_cons_of_mem _ (ag8 h).1, (ag8 h).2⟩
    · rename_i e
      rcases List.mem_cons.1 h with h | h
      · subst h
        refine ⟨List.mem_cons_self .., fun h => ?_⟩
        simp only at h
        subst h
        have : Nat.beq t t = true := Nat.beq_refl t
        rw [e] at this; cases this
      · exact ⟨List.mem_cons_of_mem _ (ag8 h).1, (ag8 h).2⟩
def dR (ρ : Env) (R : aaV) : acd := R.map fun p => (p.1, aay ρ p.2)
theorem aiG {ρ : Env} {R : aaV} {k : Nat} {v : V} (h : get R k = some v) : (k, aay ρ v) ∈ dR ρ R := List.mem_map.2 ⟨_, ap5 h, rfl⟩
def aqx : aaV → Nat
  | [] => 0
  | p :: R => mx (ahH p.2) (aqx R)
theorem abq {ρ ρ' : Env} {n : Nat} (h : aaz n ρ ρ') : ∀ R : aaV, aqx R ≤ n → dR ρ R = dR ρ' R
  | [], _ => rfl
  | p :: R, hn => by
    simp only [aqx] at hn
    have h1 : ahH p.2 ≤ n := Nat.le_trans axX hn
    have h2 : aqx R ≤ n := Nat.le_trans avN hn
    show (p.1, aay ρ p.2) :: dR ρ R = (p.1, aay ρ' p.2) :: dR ρ' R
    rw [abq h R h2, aa0 h _ h1]
def anF (R : aaV) : Option Tmp → V → aaV
  | none, _ => R
  | some d, v => (d, v) :: del R d
def awV (n : Nat) : Option Tmp → Bool
  | none => true
  | some d => Nat.blt d n
theorem aeo {n : Nat} {ρ : Env} {R : aaV} {d : Option Tmp} {v : V} (h : awV n d = true) : Put n (dR ρ R) d (aay ρ v) (dR ρ (anF R d v)) := by
  cases d with
  | none => exact auy
  | some d =>
    intro a r
    have hd : d < n := Nat.le_of_ble_eq_true h
    refine awU (R := dR ρ (del R d)) ?_ a (r.sub fun p hp => ?_)
    · unfold am8
      simp only [Bool.and_eq_true, List.all_eq_true]
      refine ⟨h, fun p hp => ?_⟩
      obtain ⟨q, hq, rfl⟩ := List.mem_map.1 hp
      simpa using (ag8 hq).2
    · obtain ⟨q, hq, rfl⟩ := List.mem_map.1 hp
      exact List.mem_map.2 ⟨q, (ag8 hq).1, rfl⟩
def aub : Value → V
  | .int k x => .l k x
  | .bool x => .t x
  | v => .c v
theorem ag9 (ρ : Env) (v : Value) : aay ρ (aub v) = v := by cases v <;> rfl
def evO (R : aaV) : Operand → Option V
  | .tmp t => get R t
  | .const v => some (aub v)
  | .func f => some (.fn f [])
  | .global _ => none
theorem aaI {ρ : Env} {R : aaV} {x : Operand} {v : V} (h : evO R x = some v) : EvalR (dR ρ R) x (aay ρ v) := by
  cases x with
  | tmp t => exact .tmp (aiG h)
  | const u => cases h; rw [ag9]; exact .const
  | func f => cases h; exact .func
  | global g => cases h
def axy (R : aaV) : List Operand → Option (List V)
  | [] => some []
  | x :: xs => match evO R x with
    | some v => match axy R xs with
      | some vs => some (v :: vs)
      | none => none
    | none => none
theorem amd {ρ : Env} {R : aaV} : ∀ {xs : List Operand} {vs : List V}, axy R xs = some vs → EvalRs (dR ρ R) xs (aam ρ vs)
  | [], vs, h => by cases h; exact .nil
  | x :: xs, vs, h => by
    unfold axy at h
    split at h
    · rename_i v hv
      split at h
      · rename_i us hu
        cases h
        exact .cons (aaI hv) (amd hu)
      · cases h
    · cases h
structure Gd where
  P : Prop
  d : Decidable P
def gds {α : Type} : List Gd → Option α → Option α
  | [], k => k
  | g :: l, k => @ite _ g.P g.d (gds l k) none
theorem ajP {α : Type} {k : Option α} {o : α} : ∀ {l : List Gd}, gds l k = some o → (∀ g ∈ l, g.P) ∧ k = some o
  | [], h => ⟨(by simp), h⟩
  | g :: l, h => by
    unfold gds at h
    have := g.d
    by_cases hg : g.P
    · rw [if_pos hg] at h
      obtain ⟨h1, h2⟩ := ajP h
      exact ⟨fun x hx => (List.mem_cons.1 hx).elim (fun e => e ▸ hg) (h1 x), h2⟩
    · rw [if_neg hg] at h; cases h
def ai2 : V → Option (IntKind × Int × Bool)
  | .i k x => some (k, x, false)
  | .l k x => some (k, x, true)
  | _ => none
theorem ail {ρ : Env} {v : V} {k : IntKind} {x : Int} {l : Bool} (h : ai2 v = some (k, x, l)) : aay ρ v = .int k x := by
  cases v <;> simp [ai2] at h <;> obtain ⟨rfl, rfl, _⟩ := h <;> rfl
def apC : IntKind → IntKind → Bool
  | .i64, .i64 => true
  | .u64, .u64 => true
  | .u8, .u8 => true
  | .u16, .u16 => true
  | .i32, .i32 => true
  | _, _ => false
theorem aie {k k' : IntKind} (h : apC k k' = true) : k = k' := by cases k <;> cases k' <;> first | rfl | cases h
def mkI (l : Bool) (k : IntKind) (x : Int) : V := match l with
  | true => .l k x
  | false => .i k x
theorem ado {ρ : Env} {l : Bool} {k : IntKind} {x : Int} : aay ρ (mkI l k x) = .int k x := by cases l <;> rfl
def mkP (l : Bool) (P : Prop) (d : Decidable P) : V := match l with
  | true => .t (@decide P d)
  | false => .p P d
theorem ako {ρ : Env} {l : Bool} {P : Prop} {d : Decidable P} : aay ρ (mkP l P d) = .bool (@decide P d) := by cases l <;> rfl
def nzL : Int → Bool
  | .ofNat 0 => false
  | _ => true
def nnL : Int → Bool
  | .ofNat _ => true
  | _ => false
theorem ay0 {b : Int} (h : nzL b = true) : b ≠ 0 := by
  intro e; subst e; cases h
theorem alT {b : Int} (h : nnL b = true) : 0 ≤ b := by
  cases b with
  | ofNat n => exact Int.natCast_nonneg n
  | negSucc n => cases h
def nzG (l : Bool) (b : Int) : Option (List Gd) := match l with
  | true => match nzL b with
    | true => some []
    | false => none
  | false => some [⟨b ≠ 0, inferInstance⟩]
theorem avK {l : Bool} {b : Int} {gs : List Gd} (h : nzG l b = some gs) (hg : ∀ g ∈ gs, g.P) : b ≠ 0 := by
  unfold nzG at h
  cases l with
  | true =>
    simp only at h
    split at h
    · rename_i e; exact ay0 e
    · cases h
  | false => cases h; exact hg _ (List.mem_singleton.2 rfl)
def nnG (l : Bool) (b : Int) : Option (List Gd) := match l with
  | true => match nnL b with
    | true => some []
    | false => none
  | false => some [⟨0 ≤ b, inferInstance⟩]
theorem avM {l : Bool} {b : Int} {gs : List Gd} (h : nnG l b = some gs) (hg : ∀ g ∈ gs, g.P) : 0 ≤ b := by
  unfold nnG at h
  cases l with
  | true =>
    simp only at h
    split at h
    · rename_i e; exact alT e
    · cases h
  | false => cases h; exact hg _ (List.mem_singleton.2 rfl)
def biI (op : BinOp) (k : IntKind) (a b : Int) (l lb : Bool) : Option (List Gd × V) :=
  match op with
  | .add => some ([], mkI l k (k.wrap (a + b)))
  | .sub => some ([], mkI l k (k.wrap (a - b)))
  | .mul => some ([], mkI l k (k.wrap (a * b)))
  | .quo => (nzG lb b).map fun g => (g, mkI l k (k.wrap (a.tdiv b)))
  | .rem => (nzG lb b).map fun g => (g, mkI l k (a.tmod b))
  | .and => some ([], mkI l k (k.wrap (BitVec.ofInt k.bits a &&& BitVec.ofInt k.bits b).toNat))
  | .or => some ([], mkI l k (k.wrap (BitVec.ofInt k.bits a ||| BitVec.ofInt k.bits b).toNat))
  | .xor => some ([], mkI l k (k.wrap (BitVec.ofInt k.bits a ^^^ BitVec.ofInt k.bits b).toNat))
  | .andNot => some ([], mkI l k (k.wrap (BitVec.ofInt k.bits a &&& ~~~ BitVec.ofInt k.bits b).toNat))
  | .lss => some ([], mkP l (a < b) inferInstance)
  | .leq => some ([], mkP l (a ≤ b) inferInstance)
  | .gtr => some ([], mkP l (b < a) inferInstance)
  | .geq => some ([], mkP l (b ≤ a) inferInstance)
  | .eql => some ([], mkP l (a = b) inferInstance)
  | .neq => some ([], mkP l (a ≠ b) inferInstance)
  | _ => none
def shI (op : BinOp) (k : IntKind) (a b : Int) (l lb : Bool) : Option (List Gd × V) :=
  match op with
  | .shl => (nnG lb b).map fun g => (g, mkI l k (k.wrap (a * 2 ^ min b.toNat k.bits)))
  | .shr => (nnG lb b).map fun g => (g, mkI l k (a.fdiv (2 ^ min b.toNat k.bits)))
  | _ => none
def aAW : BinOp → Bool
  | .shl => true
  | .shr => true
  | _ => false
def apk : V → Option Bool
  | .p P d => some (@decide P d)
  | .b x => some x
  | .t x => some x
  | _ => none
theorem ajV {ρ : Env} {v : V} {x : Bool} (h : apk v = some x) : aay ρ v = .bool x := by
  cases v <;> simp [apk] at h <;> subst h <;> rfl
def azp (P : Program) (T : TypeId) : Bool := match P.underlying T with
  | some .bool => true
  | _ => false
def agn (P : Program) (T : TypeId) : Option TypeId := match P.underlying T with
  | some (.slice E) => some E
  | _ => none
theorem abx {P : Program} {T E : TypeId} (h : agn P T = some E) : P.underlying T = some (.slice E) := by
  unfold agn at h; split at h
  · cases h; assumption
  · cases h
def ay8 (P : Program) (T : TypeId) : Option IntKind := match P.underlying T with
  | some (.int k) => some k
  | _ => none
theorem arc {P : Program} {T : TypeId} {k : IntKind} (h : ay8 P T = some k) : P.underlying T = some (.int k) := by
  unfold ay8 at h; split at h
  · cases h; assumption
  · cases h
def azE (P : Program) (T : TypeId) (a b : V) : Option Gd :=
  match P.underlying T with
  | some (.int _) => match ai2 a with
    | some (k, n, _) => match ai2 b with
      | some (k', m, _) => match apC k k' with
        | true => some ⟨n = m, inferInstance⟩
        | false => none
      | none => none
    | none => none
  | some .bool => match apk a with
    | some x => match apk b with
      | some y => some ⟨x = y, inferInstance⟩
      | none => none
    | none => none
  | _ => none
def ax7 (g h : Gd) : Gd := ⟨g.P ∧ h.P, @instDecidableAnd _ _ g.d h.d⟩
def azH (P : Program) (rec : TypeId → List V → List V → Option Gd) (xs ys : List V) : List Field → Option Gd
  | [] => some ⟨True, inferInstance⟩
  | f :: fs => match decide (f.name = "_") with
    | true => none
    | false => match azH P rec xs ys fs with
      | some h => match P.underlying f.type with
        | some (.struct _) => match P.info? f.type with
          | some _ => match rec f.type ((xs.drop f.offset).take (P.cellsOf f.type)) ((ys.drop f.offset).take (P.cellsOf f.type)) with
            | some g => some (ax7 g h)
            | none => none
          | none => none
        | _ => match xs[f.offset]? with
          | some a => match ys[f.offset]? with
            | some b => match azE P f.type a b with
              | some g => some (ax7 g h)
              | none => none
            | none => none
          | none => none
      | none => none
def azh (P : Program) : Nat → TypeId → List V → List V → Option Gd
  | 0, _, _, _ => none
  | d + 1, T, xs, ys => match P.underlying T with
    | some (.struct _) => match P.stoodInHeld T with
      | true => none
      | false => azH P (azh P d) xs ys (P.fieldsOf T).toList
    | _ => none
section
variable {P : Program} {ρ : Env}
theorem axG {T : TypeId} {a b : V} {g : Gd} (h : azE P T a b = some g) (d : Nat) (w : World) : (Op.equalIn (d + 1) T (aay ρ a) (aay ρ b)).run P w = .ok (@decide g.P g.d) w := by
  unfold azE at h
  split at h
  · rename_i k0 hT
    split at h
    · rename_i k n _ ha
      split at h
      · rename_i k' m _ hb
        split at h
        · rename_i hk
          cases h
          obtain rfl := aie hk
          rw [ail ha, ail hb]
          have e : (n == m) = decide (n = m) := by by_cases hh : n = m <;> simp [hh]
          simp [run_equalIn_int w d T k k0 n m hT, e]
        · cases h
      · cases h
    · cases h
  · rename_i hT
    split at h
    · rename_i x ha
      split at h
      · rename_i y hb
        cases h
        rw [ajV ha, ajV hb]
        have e : (x == y) = decide (x = y) := by cases x <;> cases y <;> rfl
        simp [run_equalIn_bool' w d T x y hT, e]
      · cases h
    · cases h
  · cases h
theorem ao9 {l : List V} {i : Nat} {v : V} (h : l[i]? = some v) : (aam ρ l).toArray[i]? = some (aay ρ v) := by
  rw [aaN]; simp [h]
theorem aom (l : List V) (o k : Nat) : List.take k (List.drop o (aam ρ l)) = aam ρ ((l.drop o).take k) := by rw [aaN, aaN, List.map_take, List.map_drop]
theorem atn {rec : TypeId → List V → List V → Option Gd} {D : Nat} (hD : 0 < D) (hr : ∀ T xs ys g, rec T xs ys = some g → ∀ w, (Op.equalIn D T (.agg (aam ρ xs).toArray) (.agg (aam ρ ys).toArray)).run P w = .ok (@decide g.P g.d) w) {xs ys : List V} :
    ∀ {fs : List Field} {g : Gd}, azH P rec xs ys fs = some g → ∀ w, (Op.eqFields D (aam ρ xs).toArray (aam ρ ys).toArray fs).run P w = .ok (@decide g.P g.d) w
  | [], g, h, w => by cases h; simp [Op.eqFields]
  | f :: fs, g, h, w => by
    obtain ⟨D, rfl⟩ : ∃ D', D = D' + 1 := ⟨D - 1, by omega⟩
    have fin : ∀ {g0 g1 : Gd} {a b : Value}, f.name ≠ "_" → (part f.type (aam ρ xs).toArray f.offset).run P w = .ok a w → (part f.type (aam ρ ys).toArray f.offset).run P w = .ok b w → (Op.equalIn (D + 1) f.type a b).run P w = .ok (@decide g0.P g0.d) w →
        (Op.eqFields (D + 1) (aam ρ xs).toArray (aam ρ ys).toArray fs).run P w = .ok (@decide g1.P g1.d) w → (Op.eqFields (D + 1) (aam ρ xs).toArray (aam ρ ys).toArray (f :: fs)).run P w = .ok (@decide (ax7 g0 g1).P (ax7 g0 g1).d) w := by
      intro g0 g1 a b hn h1 h2 h3 h4
      simp only [Op.eqFields]
      rw [if_pos hn]
      simp only [Sem.run_bind, h1, h2, h3, Result.andThen_ok]
      have := g0.d
      have := g1.d
      by_cases hp : g0.P
      · simp [hp, h4, ax7]
      · simp [hp, ax7]
    unfold azH at h
    split at h
    · cases h
    · rename_i hn
      have hn' : f.name ≠ "_" := by simpa using hn
      split at h
      · rename_i g1 h1
        have ih := atn hD hr h1 w
        split at h
        · rename_i hu
          split at h
          · rename_i i hi
            split at h
            · rename_i g0 h0
              cases h
              have hp : ∀ l : List V, (part f.type (aam ρ l).toArray f.offset).run P w = .ok (.agg (aam ρ ((l.drop f.offset).take (P.cellsOf f.type))).toArray) w := fun l => by
                simp [part, isAgg, run_underlying hu, run_sizeOf w hi, aom]
              exact fin hn' (hp xs) (hp ys) (hr _ _ _ _ h0 w) ih
            · cases h
          · cases h
        · rename_i hu
          split at h
          · rename_i a ha
            split at h
            · rename_i b hb
              split at h
              · rename_i g0 h0
                cases h
                have hk : P.plainKey f.type = true := by
                  unfold azE at h0
                  unfold Program.plainKey
                  split at h0
                  · rename_i hT; rw [hT]
                  · rename_i hT; rw [hT]
                  · cases h0
                exact fin hn' (run_part_plain w hk (ao9 ha)) (run_part_plain w hk (ao9 hb)) (axG h0 D w) ih
              · cases h
            · cases h
          · cases h
      · cases h
theorem aqa : ∀ {d : Nat} {T : TypeId} {xs ys : List V} {g : Gd}, azh P d T xs ys = some g → ∀ (D : Nat), d < D → ∀ w, (Op.equalIn D T (.agg (aam ρ xs).toArray) (.agg (aam ρ ys).toArray)).run P w = .ok (@decide g.P g.d) w
  | 0, _, _, _, _, h, _, _, _ => by cases h
  | d + 1, T, xs, ys, g, h, D, hD, w => by
    obtain ⟨D, rfl⟩ : ∃ D', D = D' + 1 := ⟨D - 1, by omega⟩
    unfold azh at h
    split at h
    · rename_i fs hu
      split at h
      · cases h
      · rename_i hs
        rw [run_equalIn_struct w D T _ _ (by unfold Program.fieldsOf; rw [hu]) hs]
        exact atn (by omega) (fun T xs ys g h w => aqa h D (by omega) w) h w
    · cases h
end
def biV (P : Program) (op : BinOp) (T : TypeId) (x y : V) : Option (List Gd × V) :=
  match ai2 x with
  | some (k, a, l) => match ai2 y with
    | some (k', b, l') => match aAW op with
      | true => shI op k a b (l && l') l'
      | false => match apC k k' with
        | true => biI op k a b (l && l') l'
        | false => none
    | none => none
  | none => match azp P T with
    | true => match apk x with
      | some a => match apk y with
        | some b => match op with
          | .eql => some ([], .p (a = b) inferInstance)
          | .neq => some ([], .p (a ≠ b) inferInstance)
          | _ => none
        | none => none
      | none => none
    | false => match x with
      | .agg xs => match y with
        | .agg ys => match P.eqGuardType P.depth T with
          | true => none
          | false => match op with
            | .eql => (azh P 5 T xs ys).map fun g => ([], .p g.P g.d)
            | .neq => (azh P 5 T xs ys).map fun g => ([], .p (¬ g.P) (@instDecidableNot _ g.d))
            | _ => none
        | _ => none
      | _ => none
def unV (op : UnOp) (x : V) : Option V :=
  match op with
  | .not => match x with
    | .p P d => some (.p (¬ P) inferInstance)
    | .b x => some (.b (!x))
    | .t x => some (.t (!x))
    | _ => none
  | .neg => match ai2 x with
    | some (k, a, l) => some (mkI l k (k.wrap (0 - a)))
    | none => none
  | .xor => match ai2 x with
    | some (k, a, l) => some (mkI l k (k.wrap (BitVec.ofInt k.bits (if k.signed then -1 else k.max) ^^^ BitVec.ofInt k.bits a).toNat))
    | none => none
  | _ => none
def ay6 (L : Nat → Option Nat) : V → Option V
  | .sl id => match L id with
    | some n => some (.i .i64 ((n : Nat) : Int))
    | none => none
  | .c (.slice none 0 0) => some (.l .i64 0)
  | .vw _ _ m _ => some (.l .i64 ((m : Nat) : Int))
  | .vs _ _ k _ => some (.i .i64 ((k.toNat : Nat) : Int))
  | _ => none
def buV (P : Program) (L : Nat → Option Nat) (R : aaV) (bu : Builtin) (xs : List Operand) (ts : List TypeId) : Option (List Gd × V) :=
  match bu with
  | .len => match xs, ts with
    | [x], [T] => match agn P T with
      | some _ => match evO R x with
        | some v => (ay6 L v).map fun v => ([], v)
        | none => none
      | none => none
    | _, _ => none
  | .min => match xs with
    | [x, y] => match evO R x with
      | some a => match evO R y with
        | some b => match ai2 a with
          | some (k, n, l) => match ai2 b with
            | some (_, m, l') => some ([], mkI (l && l') k (if m < n then m else n))
            | none => none
          | none => none
        | none => none
      | none => none
    | _ => none
  | .max => match xs with
    | [x, y] => match evO R x with
      | some a => match evO R y with
        | some b => match ai2 a with
          | some (k, n, l) => match ai2 b with
            | some (_, m, l') => some ([], mkI (l && l') k (if n < m then m else n))
            | none => none
          | none => none
        | none => none
      | none => none
    | _ => none
  | _ => none
def evP (P : Program) (L : Nat → Option Nat) (R : aaV) (op : Op) : Option (List Gd × V) :=
  match op with
  | .move x => (evO R x).map fun v => ([], v)
  | .assign x => (evO R x).map fun v => ([], v)
  | .nilCheck x => match evO R x with
    | some (.ptr id o) => some ([], .ptr id o)
    | some (.ifc t v) => some ([], .ifc t v)
    | _ => none
  | .pick c x y => match evO R c with
    | some (.t b) => (evO R (match b with | true => x | false => y)).map fun v => ([], v)
    | _ => none
  | .binOp op T x y _ => match evO R x with
    | some a => match evO R y with
      | some b => biV P op T a b
      | none => none
    | none => none
  | .unOp op _ x => match evO R x with
    | some a => (unV op a).map fun v => ([], v)
    | none => none
  | .convert T T' x => match evO R x with
    | some a => match ai2 a with
      | some (_, n, l) => match ay8 P T with
        | some _ => match ay8 P T' with
          | some k' => some ([], mkI l k' (k'.wrap n))
          | none => none
        | none => none
      | none => none
    | none => none
  | .extract x i => match evO R x with
    | some (.tup l) => (l[i]?).map fun v => ([], v)
    | _ => none
  | .fieldAddr T x f => match evO R x with
    | some (.ptr id o) => (anU P T f).map fun k => ([], .ptr id (o + k))
    | _ => none
  | .call c => match c.callee with
    | .builtin b => buV P L R b c.args.toList c.argTypes.toList
    | _ => none
  | .makeFunc (.func f) first captured => match first.isEmpty with
    | true => (axy R captured.toList).map fun l => ([], .fn f l)
    | false => none
  | _ => none
section
variable {P : Program} {n : Nat} {ρ : Env} {R : aaV}
theorem abv {x : Operand} {v : V} {k : IntKind} {a : Int} {l : Bool} (h : evO R x = some v) (hv : ai2 v = some (k, a, l)) : EvalR (dR ρ R) x (.int k a) := ail (ρ := ρ) hv ▸ aaI h
theorem alk {x : Operand} {v : V} {b : Bool} (h : evO R x = some v) (hv : apk v = some b) : EvalR (dR ρ R) x (.bool b) := ajV (ρ := ρ) hv ▸ aaI h
theorem azr {d : Option Tmp} {ty : TypeId} {ps : String} {af : Array Edge} {g : Option (Nat × Bool)} {T T' : TypeId} {op : BinOp} {x y : Operand} {k : IntKind} {a b : Int} {l lb : Bool} {gs : List Gd} {v : V}
    (h : biI op k a b l lb = some (gs, v)) (hg : ∀ g ∈ gs, g.P) (hx : EvalR (dR ρ R) x (.int k a)) (hy : EvalR (dR ρ R) y (.int k b)) : OP P n ⟨d, .binOp op T x y T', ty, ps, af, g⟩ (dR ρ R) (aay ρ v) := by
  cases op <;> simp only [biI, Option.some.injEq, Prod.mk.injEq, Option.map_eq_some_iff, reduceCtorEq] at h
  case add => obtain ⟨rfl, rfl⟩ := h; rw [ado]; exact ayZ hx hy rfl
  case sub => obtain ⟨rfl, rfl⟩ := h; rw [ado]; exact ayG hx hy rfl
  case mul => obtain ⟨rfl, rfl⟩ := h; rw [ado]; exact ayO hx hy rfl
  case quo => obtain ⟨_, h1, rfl, rfl⟩ := h; rw [ado]; exact ayK hx hy (avK h1 hg) rfl
  case rem => obtain ⟨_, h1, rfl, rfl⟩ := h; rw [ado]; exact ayJ hx hy (avK h1 hg) rfl
  case and => obtain ⟨rfl, rfl⟩ := h; rw [ado]; exact ayY hx hy rfl
  case or => obtain ⟨rfl, rfl⟩ := h; rw [ado]; exact azZ hx hy rfl
  case xor => obtain ⟨rfl, rfl⟩ := h; rw [ado]; exact ayF hx hy rfl
  case andNot => obtain ⟨rfl, rfl⟩ := h; rw [ado]; exact asP hx hy rfl
  case lss => obtain ⟨rfl, rfl⟩ := h; rw [ako]; exact ayR hx hy
  case leq => obtain ⟨rfl, rfl⟩ := h; rw [ako]; exact ayS hx hy
  case gtr => obtain ⟨rfl, rfl⟩ := h; rw [ako]; exact ayT hx hy
  case geq => obtain ⟨rfl, rfl⟩ := h; rw [ako]; exact ayU hx hy
  case eql => obtain ⟨rfl, rfl⟩ := h; rw [ako]; exact ayV hx hy
  case neq => obtain ⟨rfl, rfl⟩ := h; rw [ako]; exact ayM hx hy
theorem azq {d : Option Tmp} {ty : TypeId} {ps : String} {af : Array Edge} {g : Option (Nat × Bool)} {T T' : TypeId} {op : BinOp} {x y : Operand} {u w v : V} {gs : List Gd}
    (h : biV P op T u w = some (gs, v)) (hg : ∀ g ∈ gs, g.P) (hx : evO R x = some u) (hy : evO R y = some w) : OP P n ⟨d, .binOp op T x y T', ty, ps, af, g⟩ (dR ρ R) (aay ρ v) := by
  unfold biV at h
  split at h
  · rename_i k a l hu
    split at h
    · rename_i k' b l' hw
      split at h
      · cases op <;> simp only [shI, Option.map_eq_some_iff, Prod.mk.injEq, reduceCtorEq] at h
        case shl => obtain ⟨_, h1, rfl, rfl⟩ := h; rw [ado]; exact ayI (abv hx hu) (abv hy hw) (avM h1 hg) rfl
        case shr => obtain ⟨_, h1, rfl, rfl⟩ := h; rw [ado]; exact ayH (abv hx hu) (abv hy hw) (avM h1 hg) rfl
      · split at h
        · rename_i hk
          obtain rfl := aie hk
          exact azr h hg (abv hx hu) (abv hy hw)
        · cases h
    · cases h
  · split at h
    · rename_i hT
      have hT' : P.underlying T = some .bool := by
        unfold azp at hT; split at hT
        · assumption
        · cases hT
      split at h
      · rename_i a ha
        split at h
        · rename_i b hb
          split at h
          · cases h; exact ayW hT' (alk hx ha) (alk hy hb)
          · cases h; exact aw9 hT' (alk hx ha) (alk hy hb)
          · cases h
        · cases h
      · cases h
    · split at h
      · rename_i xs
        split at h
        · rename_i ys
          split at h
          · cases h
          · rename_i hm
            split at h
            · simp only [Option.map_eq_some_iff, Prod.mk.injEq] at h
              obtain ⟨g0, h0, rfl, rfl⟩ := h
              intro a w s
              simp only [execOp, (aaI (ρ := ρ) hx).eval s, (aaI (ρ := ρ) hy).eval s, aay]
              rw [aac (aac (run_eqGuard_agg _ _ _ _ _ _ _ hm) |>.trans (by rw [run_eql_struct, aqa h0 10000 (by omega) w]; rfl))]
              rfl
            · simp only [Option.map_eq_some_iff, Prod.mk.injEq] at h
              obtain ⟨g0, h0, rfl, rfl⟩ := h
              intro a w s
              simp only [execOp, (aaI (ρ := ρ) hx).eval s, (aaI (ρ := ρ) hy).eval s, aay]
              rw [aac (aac (run_eqGuard_agg _ _ _ _ _ _ _ hm) |>.trans (by rw [run_neq_struct, aqa h0 10000 (by omega) w]; rfl))]
              have := g0.d
              by_cases hp : g0.P <;> simp [hp]
            · cases h
        · cases h
      · cases h
theorem ayd {d : Option Tmp} {ty : TypeId} {ps : String} {af : Array Edge} {g : Option (Nat × Bool)} {T : TypeId} {op : UnOp} {x : Operand} {u v : V} (h : unV op u = some v) (hx : evO R x = some u) : OP P n ⟨d, .unOp op T x, ty, ps, af, g⟩ (dR ρ R) (aay ρ v) := by
  unfold unV at h
  split at h
  · split at h
    · cases h; exact ayL (aaI hx)
    · cases h; exact asN (aaI hx)
    · cases h; exact asN (aaI hx)
    · cases h
  · split at h
    · rename_i hi; cases h; rw [ado]; exact ayN (abv hx hi) rfl
    · cases h
  · split at h
    · rename_i hi; cases h; rw [ado]; exact ayX (abv hx hi) rfl
    · cases h
  · cases h
theorem arK {ρ : Env} {l : List V} {i : Nat} {v : V} (h : l[i]? = some v) : (aam ρ l)[i]? = some (aay ρ v) := by rw [aaN, List.getElem?_map, h]; rfl
theorem azo {d : Option Tmp} {ty : TypeId} {ps : String} {af : Array Edge} {g : Option (Nat × Bool)} {bu : Builtin} {xs : Array Operand} {ts : Array TypeId} {gs : List Gd} {v : V} {L : Nat → Option Nat} (hL : ∀ id m, L id = some m → (ρ.s id).n = m) (h : buV P L R bu xs.toList ts.toList = some (gs, v)) (hg : ∀ g ∈ gs, g.P) :
    OP P n ⟨d, .call ⟨.builtin bu, xs, ts⟩, ty, ps, af, g⟩ (dR ρ R) (aay ρ v) := by
  unfold buV at h
  split at h
  · split at h
    · rename_i x T hxs hts
      obtain rfl : xs = #[x] := by apply Array.ext'; simpa using hxs
      obtain rfl : ts = #[T] := by apply Array.ext'; simpa using hts
      split at h
      · rename_i hT
        split at h
        · rename_i u hx
          simp only [Option.map_eq_some_iff, Prod.mk.injEq] at h; obtain ⟨w, hw, rfl, rfl⟩ := h
          unfold ay6 at hw
          split at hw
          · rename_i id
            cases hm : L id with
            | none => rw [hm] at hw; cases hw
            | some m =>
            rw [hm] at hw
            cases hw
            have := aoT (P := P) (n := n) (d := d) (ty := ty) (ps := ps) (af := af) (g := g) (aaI (ρ := ρ) hx) (abx hT)
            rw [hL _ _ hm] at this
            exact this
          · cases hw; exact aoT (aaI hx) (abx hT)
          · cases hw; exact aoT (aaI hx) (abx hT)
          · cases hw; exact aoT (aaI hx) (abx hT)
          · cases hw
        · cases h
      · cases h
    · cases h
  · split at h
    · rename_i x y hxs
      obtain rfl : xs = #[x, y] := by apply Array.ext'; simpa using hxs
      split at h
      · rename_i hx
        split at h
        · rename_i hy
          split at h
          · rename_i hi
            split at h
            · rename_i hj
              cases h; rw [ado]; exact ayP (abv hx hi) (abv hy hj)
            · cases h
          · cases h
        · cases h
      · cases h
    · cases h
  · split at h
    · rename_i x y hxs
      obtain rfl : xs = #[x, y] := by apply Array.ext'; simpa using hxs
      split at h
      · rename_i hx
        split at h
        · rename_i hy
          split at h
          · rename_i hi
            split at h
            · rename_i hj
              cases h; rw [ado]; exact ayQ (abv hx hi) (abv hy hj)
            · cases h
          · cases h
        · cases h
      · cases h
    · cases h
  · cases h
theorem aze {L : Nat → Option Nat} {o : Oper} {gs : List Gd} {v : V} (hL : ∀ id m, L id = some m → (ρ.s id).n = m) (h : evP P L R o.op = some (gs, v)) (hg : ∀ g ∈ gs, g.P) : OP P n o (dR ρ R) (aay ρ v) := by
  obtain ⟨d, op, ty, ps, af, g⟩ := o
  simp only at h
  unfold evP at h
  split at h
  · simp only [Option.map_eq_some_iff, Prod.mk.injEq] at h; obtain ⟨u, hu, rfl, rfl⟩ := h; exact axa (aaI hu)
  · simp only [Option.map_eq_some_iff, Prod.mk.injEq] at h; obtain ⟨u, hu, rfl, rfl⟩ := h; exact asO (aaI hu)
  · split at h
    · rename_i hx; cases h; exact apY (aaI hx)
    · rename_i hx; cases h; exact aoS (by simpa only [aay] using aaI hx)
    · cases h
  · split at h
    · rename_i b hx
      simp only [Option.map_eq_some_iff, Prod.mk.injEq] at h; obtain ⟨u, hu, rfl, rfl⟩ := h
      refine aw8 (b := b) (aaI hx) ?_
      cases b <;> exact aaI hu
    · cases h
  · split at h
    · rename_i hx
      split at h
      · rename_i hy; exact azq h hg hx hy
      · cases h
    · cases h
  · split at h
    · rename_i hx
      simp only [Option.map_eq_some_iff, Prod.mk.injEq] at h; obtain ⟨u, hu, rfl, rfl⟩ := h
      exact ayd hu hx
    · cases h
  · split at h
    · rename_i hx
      split at h
      · rename_i hi
        split at h
        · rename_i hT
          split at h
          · rename_i hT'
            cases h; rw [ado]; exact axb (abv hx hi) (arc hT) (arc hT') rfl
          · cases h
        · cases h
      · cases h
    · cases h
  · split at h
    · rename_i hx
      simp only [Option.map_eq_some_iff, Prod.mk.injEq] at h; obtain ⟨u, hu, rfl, rfl⟩ := h
      exact arF (aaI hx) (by simpa using arK hu)
    · cases h
  · split at h
    · rename_i hx
      simp only [Option.map_eq_some_iff, Prod.mk.injEq] at h; obtain ⟨u, hu, rfl, rfl⟩ := h
      exact auK (aaI hx) hu (Nat.add_assoc ..)
    · cases h
  · split at h
    · rename_i c _ _ _
      obtain ⟨callee, xs, ts⟩ := c
      simp only at *
      subst callee
      exact azo hL h hg
    · cases h
  · split at h
    · rename_i f first captured _ he
      simp only [Option.map_eq_some_iff, Prod.mk.injEq] at h; obtain ⟨u, hu, rfl, rfl⟩ := h
      have : first = #[] := by simpa using he
      subst this
      exact apZ (xs := captured.toList) (amd hu)
    · cases h
  · cases h
end
def az1 (l : Nat) (o : Obj) : aah := fun h => h l 0 = some (.obj o)
section
variable {B : Nat} {w : World} {L M : List aah} {l : Nat} {o o' : Obj}
theorem Sat.obj (s : Sat B w (az1 l o :: L)) : B ≤ l ∧ w.heap[l]? = some o ∧ Obj.plain o = true := by
  obtain ⟨h, H, k1, k2, a, e, hA, hL⟩ := s
  have := H l 0 (.obj o) (by rw [e]; unfold aco; rw [show k1 l 0 = _ from hA])
  exact ⟨this.1.resolve_right id, this.2.1, this.2.2.1⟩
theorem Sat.newObj (s : Sat B w L) (hB : B ≤ w.heap.size) (hp : Obj.plain o = true) : Sat B (w.alloc o) (az1 w.heap.size o :: L) := by
  obtain ⟨h, H, hL⟩ := s
  have hfar : ∀ j, h w.heap.size j = none := fun j => by
    cases e : h w.heap.size j with
    | none => rfl
    | some x => exact absurd (H _ _ _ e).2.lt (by omega)
  refine ⟨aco (fun b j => if b = w.heap.size ∧ j = 0 then some (.obj o) else none) h, ?_, _, h, ?_, rfl, ?_, hL⟩
  · intro b j x hx
    unfold aco at hx
    by_cases hc : b = w.heap.size ∧ j = 0
    · obtain ⟨rfl, rfl⟩ := hc
      simp only [and_self, if_true] at hx
      obtain rfl := Option.some.inj hx
      exact ⟨.inl hB, heap_alloc_new w _, hp, rfl⟩
    · simp only [if_neg hc] at hx
      have h2 := H b j x hx
      exact ⟨h2.1, h2.2.same (Below.heap_alloc w _ _ h2.2.lt)⟩
  · intro b j
    by_cases hc : b = w.heap.size ∧ j = 0
    · obtain ⟨rfl, rfl⟩ := hc; exact .inr (.inl (hfar _))
    · left; simp [hc]
  · show (if w.heap.size = w.heap.size ∧ 0 = 0 then some (Item.obj o) else none) = some (.obj o)
    simp
end
section
variable {P : Program} {Q : Exit → Act → World → Prop} {B : Nat} {W : World} {L M : List aah}
  {ty : TypeId} {ps : String} {af : Array Edge} {g : Option (Nat × Bool)}
theorem Cls.perm {w : World} (h : Cls B W L w) (p : L.Perm M) : Cls B W M w := ⟨h.1, h.2.1, h.2.2.perm p⟩
theorem Cls.newObj {w : World} {o : Obj} (h : Cls B W L w) (hp : Obj.plain o = true) : Cls B W (az1 w.heap.size o :: L) (w.alloc o) :=
  ⟨h.1.alloc h.2.1 o, by rw [World.size_alloc]; have := h.2.1; omega, h.2.2.newObj h.2.1 hp⟩
section
variable {o : Oper} {ops : Array Oper} {n : Nat} {R R' : acd} {v : Value} {rest : List Oper}
end
end
def azt (n : Nat) (w u : World) : Prop := ∀ b o v, n ≤ b → w.cell? ⟨b, o, none⟩ = some v → u.cell? ⟨b, o, none⟩ = some v
theorem azt.refl (n : Nat) (w : World) : azt n w w := fun _ _ _ _ h => h
def av0 (w : World) (h : Hp) : Prop := ∀ b o x, h b o = some x → aez w b o x
def aAb (Φ : World → Prop) : aah := fun h => ∀ w, av0 w h → Φ w
section
variable {P : Program} {n B : Nat} {W : World} {R R' : acd} {L L' M : List aah} {v u : Value} {x y z : Operand} {w w' : World} {Φ : World → Prop}
  {d : Option Tmp} {ty : TypeId} {ps : String} {af : Array Edge} {g : Option (Nat × Bool)} {T T' : TypeId}
theorem Sat.held (s : Sat B w (aAb Φ :: L)) : Φ w := by
  obtain ⟨h, H, k1, k2, a, e, hA, hL⟩ := s
  exact hA w fun b o x hx => (H b o x (by rw [e]; unfold aco; rw [hx])).2
end
theorem am6 {u : World} {b o : Nat} {v : Value} (h : u.cell? ⟨b, o, none⟩ = some v) : b < u.heap.size := by
  rcases Nat.lt_or_ge b u.heap.size with h1 | h1
  · exact h1
  · have e := Array.getElem?_eq_none h1
    unfold World.cell? at h; rw [e] at h; cases h
def SE (L L' : List aah) : Prop := ∀ B w, Sat B w L → Sat B w L'
def ad1 (Φ : World → Prop) : aah := fun h => ∃ k : Hp, (∀ b o x, k b o = some x → (∃ v, x = .look v) ∧ h b o = some x) ∧ ∀ w, av0 w k → Φ w
section
variable {r : Option Nat} {P : Program} {ops : Array Oper} {Q : Exit → Act → World → Prop} {n B : Nat} {W : World} {R R' : acd} {L L' L'' M : List aah} {Φ Ψ : World → Prop} {v : Value} {x y z : Operand}
  {d : Option Tmp} {ty : TypeId} {ps : String} {af : Array Edge} {g : Option (Nat × Bool)} {T T' : TypeId}
theorem SE.of (e : Ent L L') : SE L L' := fun _ _ s => s.imp e
theorem SE.trans (h : SE L L') (k : SE L' L'') : SE L L'' := fun B w s => k B w (h B w s)
def exL {X : Type} (N : X → List aah) : aah := fun h => ∃ x, abh (N x) h
theorem afQ {X : Type} {N : X → List aah} {w : World} (s : Sat B w (exL N :: L)) : ∃ x, Sat B w (N x ++ L) := by
  obtain ⟨h, H, k1, k2, a, e, ⟨x, hA⟩, hL⟩ := s
  exact ⟨x, h, H, aao.2 ⟨k1, k2, a, e, hA, hL⟩⟩
theorem ajI : Ent (ad1 Φ :: L) (ad1 Φ :: ad1 Φ :: L) := fun h s => by
  obtain ⟨k1, k2, a, e, ⟨k, hk, hΦ⟩, hL⟩ := s
  refine ⟨k, h, fun b o => ?_, ?_, ⟨k, fun b o x hx => ⟨(hk b o x hx).1, hx⟩, hΦ⟩, ⟨k1, k2, a, e, ⟨k, hk, hΦ⟩, hL⟩⟩
  · cases hkb : k b o with
    | none => exact .inl rfl
    | some x =>
      obtain ⟨⟨v, rfl⟩, h2⟩ := hk b o x hkb
      refine .inr (.inr ⟨v, rfl, ?_⟩)
      rw [e]; unfold aco; rw [h2]
  · funext b o
    unfold aco
    cases hkb : k b o with
    | none => rfl
    | some x =>
      obtain ⟨⟨v, rfl⟩, h2⟩ := hk b o x hkb
      rw [e]; unfold aco; rw [h2]
theorem ac3 (f : ∀ u, Φ u → Ψ u) : ∀ h, ad1 Φ h → ad1 Ψ h := fun _ ⟨k, hk, hΦ⟩ => ⟨k, hk, fun w hw => f w (hΦ w hw)⟩
theorem ajH {w : World} (s : Sat B w L) (h : ad1 Φ ∈ L) : Φ w := by
  obtain ⟨l', p⟩ := Pick.of_mem h
  obtain ⟨k, H, k1, k2, a, e, ⟨k', hk, hΦ⟩, hL⟩ := s.perm p.perm
  exact hΦ w fun b o x hx => (H b o x (by rw [e]; unfold aco; rw [(hk b o x hx).2])).2
theorem asZ {h k : Hp} (a : apart h k) (h1 : ad1 Φ h) (h2 : ad1 Ψ k) : ad1 (fun u => Φ u ∧ Ψ u) (aco h k) := by
  obtain ⟨k1, q1, p1⟩ := h1
  obtain ⟨k2, q2, p2⟩ := h2
  refine ⟨aco k1 k2, fun b o x hx => ?_, fun w hw => ⟨p1 w fun b o x hx => hw b o x (by unfold aco; rw [hx]), p2 w fun b o x hx => hw b o x ?_⟩⟩
  · unfold aco at hx ⊢
    cases e1 : k1 b o with
    | some y =>
      rw [e1] at hx; obtain rfl := Option.some.inj hx
      obtain ⟨g1, g2⟩ := q1 b o y e1
      exact ⟨g1, by rw [g2]⟩
    | none =>
      rw [e1] at hx
      obtain ⟨g1, g2⟩ := q2 b o x hx
      refine ⟨g1, ?_⟩
      rcases a b o with e | e | ⟨v, e3, e4⟩
      · rw [e]; exact g2
      · rw [e] at g2; cases g2
      · rw [e3]; rw [e4] at g2; exact g2
  · unfold aco
    cases e1 : k1 b o with
    | none => exact hx
    | some y =>
      obtain ⟨⟨v, rfl⟩, g2⟩ := q1 b o y e1
      obtain ⟨⟨u, rfl⟩, g4⟩ := q2 b o x hx
      rcases a b o with e | e | ⟨v', e3, e4⟩
      · rw [e] at g2; cases g2
      · rw [e] at g4; cases g4
      · rw [e3] at g2; rw [e4] at g4
        injection g2 with g2; injection g2 with g2
        injection g4 with g4; injection g4 with g4
        rw [← g2, ← g4]
theorem ara : Ent (ad1 Φ :: ad1 Ψ :: L) (ad1 (fun u => Φ u ∧ Ψ u) :: L) := fun h s => by
  obtain ⟨k1, k2, a, e, h1, k3, k4, a', e', h2, hL⟩ := s
  subst e'
  have a1 := (aaW a').1 (aax a)
  exact ⟨aco k1 k3, k4, (aaW (aax a1.1)).2 ⟨aax a1.2, a'⟩, by rw [e, acl], asZ (aax a1.1) h1 h2, hL⟩
theorem alY : Ent L (ad1 (fun _ => True) :: L) := fun h s => ⟨fun _ _ => none, h, fun _ _ => .inl rfl, by funext x y; rfl, ⟨fun _ _ => none, (fun _ _ _ (e : none = some _) => by cases e), fun _ _ => trivial⟩, s⟩
theorem ap1 {b o : Nat} {vs : List Value} : SE (pts b o vs :: L) (ad1 (fun u => ∀ i v, vs[i]? = some v → u.cell? ⟨b, o + i, none⟩ = some v) :: L) := fun B w s => by
  obtain ⟨h, H, k1, k2, a, e, hA, hL⟩ := s
  let f : Option Item → Option Item := fun x => match x with | some (.cell v) => some (.look v) | y => y
  have hin : ∀ i v, vs[i]? = some v → k1 b (o + i) = some (.cell v) := hA
  refine ⟨aco (fun b o => f (k1 b o)) k2, ?_, _, k2, ?_, rfl, ⟨fun b' o' => if b' = b ∧ o ≤ o' then (match vs[o' - o]? with | some v => some (.look v) | none => none) else none, ?_, ?_⟩, hL⟩
  · intro b' o' x hx
    unfold aco at hx
    simp only [] at hx
    cases e1 : k1 b' o' with
    | none =>
      rw [e1] at hx
      exact H b' o' x (by rw [e]; unfold aco; rw [e1]; exact hx)
    | some y =>
      have h1 := H b' o' y (by rw [e]; unfold aco; rw [e1])
      rw [e1] at hx
      cases y with
      | cell v => obtain rfl := Option.some.inj hx; exact ⟨.inr trivial, h1.2.1⟩
      | obj v => obtain rfl := Option.some.inj hx; exact h1
      | look v => obtain rfl := Option.some.inj hx; exact h1
  · intro b' o'
    rcases a b' o' with e1 | e1 | ⟨v, e1, e2⟩
    · left; simp only [e1]; rfl
    · exact .inr (.inl e1)
    · right; right; exact ⟨v, by simp only [e1]; rfl, e2⟩
  · intro b' o' x hx
    simp only [] at hx
    by_cases hc : b' = b ∧ o ≤ o'
    · rw [if_pos hc] at hx
      obtain ⟨rfl, hle⟩ := hc
      cases hv : vs[o' - o]? with
      | none => rw [hv] at hx; cases hx
      | some v =>
        rw [hv] at hx
        obtain rfl := Option.some.inj hx
        have := hin _ _ hv
        rw [Nat.add_sub_cancel' hle] at this
        exact ⟨⟨v, rfl⟩, by simp only [this]; rfl⟩
    · rw [if_neg hc] at hx; cases hx
  · intro u hu i v hi
    have := hu b (o + i) (.look v) (by simp [hi])
    exact this
def roS {α : Type} (enc : α → List Value) (sz : Nat) (A : Option Addr) (c : Nat) (xs : List α) : aah := ad1 fun u => Sl enc sz u u.heap.size A xs ∧ xs.length ≤ c
section
variable {α : Type} {enc : α → List Value} {sz : Nat} {A : Option Addr} {c : Nat} {xs : List α}
theorem arh {α : Type} {enc : α → List Value} {sz : Nat} (henc : ∀ x, (enc x).length = sz) : ∀ (xs : List α) (i : Nat) (x : α), xs[i]? = some x → ∀ (j : Nat) y, (enc x)[j]? = some y → (xs.flatMap enc)[i * sz + j]? = some y
  | [], i, x, h, _, _, _ => by cases h
  | z :: xs, 0, x, h, j, y, hj => by
    simp at h; subst h
    rw [List.flatMap_cons, Nat.zero_mul, Nat.zero_add, List.getElem?_append_left (List.getElem?_eq_some_iff.1 hj).1]; exact hj
  | z :: xs, i + 1, x, h, j, y, hj => by
    rw [List.flatMap_cons, List.getElem?_append_right (by rw [henc, Nat.add_mul]; omega)]
    have := arh henc xs i x (by simpa using h) j y hj
    rw [henc, ← this]; congr 1; rw [Nat.add_mul]; omega
theorem avC {L : List aah} {A : Option Addr} {c : Nat} : Ent L (roS enc sz A c ([] : List α) :: L) := alY.trans (Ent.cons (ac3 fun _ _ => ⟨Sl.nil, Nat.zero_le _⟩) Ent.refl)
theorem aox (hsz : 0 < sz) (henc : ∀ x, (enc x).length = sz) {m : Nat} (hm : xs.length = m) : SE (ad9 A m c sz (xs.flatMap enc) :: L) (roS enc sz A c xs :: L) := fun B w s => by
  subst hm
  obtain ⟨h1, h2, h3, h4⟩ := aen s (List.mem_cons_self ..)
  cases xs with
  | nil => exact avC.sat s.drop
  | cons x xs =>
    obtain ⟨h, H, k1, k2, a, e, ⟨r1, r2, r3, r4⟩, hL⟩ := s
    rcases r4 with ⟨_, r4⟩ | ⟨b, o, spare, rfl, rs, rp⟩
    · simp at r2; omega
    · have s' : Sat B w (pts b o ((x :: xs).flatMap enc) :: L) := ⟨h, H, k1, k2, a, e, (akg rp).1, hL⟩
      have s2 := ap1 B w s'
      have hlen : (x :: xs).length ≤ 9223372036854775807 := by unfold maxLen at r3; omega
      refine s2.imp fun h => aaF (ac3 fun u hu => ⟨⟨hlen, fun _ => ⟨b, o, rfl, ?_, ?_⟩⟩, r2⟩) 
      · cases hx : enc x with
        | nil => have := henc x; rw [hx] at this; simp at this; omega
        | cons y ys => exact am6 (hu 0 y (by rw [List.flatMap_cons, hx]; rfl))
      · intro i z hz j v hj
        have := hu _ _ (arh henc (x :: xs) i z hz j v hj)
        rw [Nat.add_assoc]; exact this
theorem aow {w : World} (s : Sat B w L) (h : roS enc sz A c xs ∈ L) : Sl enc sz w w.heap.size A xs ∧ xs.length ≤ c := ajH s h
theorem asl : Ent (roS enc sz A c xs :: L) (roS enc sz A c xs :: roS enc sz A c xs :: L) := ajI
end
end
theorem auz {b o : Nat} {xs ys : List Value} {h k : Hp} (p1 : pts b o xs h) (p2 : pts b (o + xs.length) ys k) (a : apart h k) : pts b o (xs ++ ys) (aco h k) := fun i v hi => by
  unfold aco
  rcases Nat.lt_or_ge i xs.length with h1 | h1
  · rw [List.getElem?_append_left h1] at hi
    rw [p1 i v hi]
  · rw [List.getElem?_append_right h1] at hi
    have := p2 _ v hi
    rw [Nat.add_assoc, Nat.add_sub_cancel' h1] at this
    rcases a b (o + i) with e | e | ⟨u, _, e⟩
    · rw [e]; exact this
    · rw [e] at this; cases this
    · rw [e] at this; cases this
theorem asq {b o : Nat} {xs ys : List Value} {h : Hp} (p : pts b o (xs ++ ys) h) : ∃ h1 h2, apart h1 h2 ∧ h = aco h1 h2 ∧ pts b o xs h1 ∧ pts b (o + xs.length) ys h2 := by
  have p2 := akg p
  refine ⟨fun b' o' => if b' = b ∧ o' < o + xs.length then h b' o' else none, fun b' o' => if b' = b ∧ o' < o + xs.length then none else h b' o', fun b' o' => ?_, ?_, fun i v hi => ?_, fun i v hi => ?_⟩
  · by_cases hc : b' = b ∧ o' < o + xs.length
    · simp only [if_pos hc]; exact .inr (.inl rfl)
    · simp only [if_neg hc]; exact .inl rfl
  · funext b' o'
    unfold aco
    by_cases hc : b' = b ∧ o' < o + xs.length
    · simp only [if_pos hc]; cases h b' o' <;> rfl
    · simp only [if_neg hc]
  · have hlt := (List.getElem?_eq_some_iff.1 hi).1
    simp only [true_and]
    rw [if_pos (by omega)]
    exact p2.1 i v hi
  · have : ¬ (b = b ∧ o + xs.length + i < o + xs.length) := by omega
    show (if b = b ∧ o + xs.length + i < o + xs.length then none else h b (o + xs.length + i)) = _
    rw [if_neg this]
    exact p2.2 i v hi
theorem ake {b o : Nat} {xs ys : List Value} {L : List aah} : Ent (pts b o (xs ++ ys) :: L) (pts b o xs :: pts b (o + xs.length) ys :: L) := fun h s => by
  obtain ⟨k1, k2, a, e, hA, hL⟩ := s
  obtain ⟨h1, h2, a', e', p1, p2⟩ := asq hA
  subst e'
  have a2 := (aaW a').1 a
  exact ⟨h1, aco h2 k2, aax ((aaW a2.2).2 ⟨aax a', aax a2.1⟩), by rw [e, acl], p1, h2, k2, a2.2, rfl, p2, hL⟩
theorem akf {b o o' : Nat} {xs ys : List Value} {L : List aah} (ho : o + xs.length = o') : Ent (pts b o xs :: pts b o' ys :: L) (pts b o (xs ++ ys) :: L) := fun h s => by
  subst ho
  obtain ⟨k1, k2, a, e, hA, k3, k4, a', e', hB, hL⟩ := s
  subst e'
  have a1 := (aaW a').1 (aax a)
  exact ⟨aco k1 k3, k4, (aaW (aax a1.1)).2 ⟨aax a1.2, a'⟩, by rw [e, acl], auz hA hB (aax a1.1), hL⟩
section
variable {α : Type} (enc : α → Option Addr → Nat → List Value) (lst : α → List Int) (sz : Nat)
end
section
variable {α : Type} {enc : α → Option Addr → Nat → List Value} {lst : α → List Int} {sz : Nat}
variable {r : Option Nat} {P : Program} {ops : Array Oper} {Q : Exit → Act → World → Prop} {n B : Nat} {W : World} {R R' : acd} {L L' M : List aah} {v : Value} {x y z : Operand}
  {d : Option Tmp} {ty : TypeId} {ps : String} {af : Array Edge} {g : Option (Nat × Bool)} {T T' : TypeId} {A : Option Addr} {c i : Nat} {xs : List α}
end
structure AccV where
  kind : Int
  cell : Int
  old : Int
  new : Int
  deriving DecidableEq, Inhabited
structure MemV where
  cells : List Int
  last : AccV
  count : Int
  deriving DecidableEq, Inhabited
structure RecV where
  prog : Int
  parent : Int
  pc : Int
  left : Int
  waiting : Int
  kids : List Int
  started : Bool
  deriving DecidableEq, Inhabited
structure QV where
  top : Int
  bottom : Int
  ring : Int
  cap : Int
  deriving DecidableEq, Inhabited
structure FrV where
  kind : Int
  line : Int
  q : QV
  a : Int
  b : Int
  d : Int
  i : Int
  j : Int
  n : Int
  t : Int
  u : Int
  v : Int
  w : Int
  x : Int
  l : List Int
  deriving DecidableEq, Inhabited
structure ResV where
  done : Bool
  code : Int
  value : Int
  deriving DecidableEq, Inhabited
structure EntV where
  kind : Int
  value : Int
  deriving DecidableEq, Inhabited
deriving instance Inhabited for Ins
deriving instance Inhabited for Sub
deriving instance Inhabited for Ev
def EntV.enc (x : EntV) : List Value := [.int .i64 x.kind, .int .i64 x.value]
instance : Inhabited Addr := ⟨⟨0, 0, none⟩⟩
@[reducible] def wi (a : Int) : Int := IntKind.i64.wrap a
@[reducible] def wu (a : Int) : Int := IntKind.u64.wrap a
@[reducible] def orU (a b : Int) : Int := IntKind.u64.wrap (BitVec.ofInt IntKind.u64.bits a ||| BitVec.ofInt IntKind.u64.bits b).toNat
@[reducible] def aue (a b : Int) : Int := IntKind.u64.wrap (BitVec.ofInt IntKind.u64.bits a &&& BitVec.ofInt IntKind.u64.bits b).toNat
@[reducible] def ax3 (a : Int) : Int := IntKind.u64.wrap (BitVec.ofInt IntKind.u64.bits (if IntKind.u64.signed then -1 else IntKind.u64.max) ^^^ BitVec.ofInt IntKind.u64.bits a).toNat
def at_ {α : Type} [Inhabited α] (xs : List α) (i : Int) : α := (xs[i.toNat]?).getD default
section
variable {r : Option Nat} {P : Program} {ops : Array Oper} {Q : Exit → Act → World → Prop} {n B : Nat} {W : World} {R R' : acd} {L L' M : List aah} {v : Value} {x y z : Operand}
  {d : Option Tmp} {ty : TypeId} {ps : String} {af : Array Edge} {g : Option (Nat × Bool)} {T T' : TypeId} {α : Type} {enc : α → List Value} {sz : Nat} {A : Option Addr} {c : Nat} {xs : List α}
end
inductive Fl (T : Nat → Type) (M : Type) where
  | i (k : IntKind) (x : Int)
  | b (x : Bool)
  | c (v : Value)
  | own (c : Nat) (x : T c)
  | row (c : Nat) (xs : List (T c))
  | ro (c : Nat) (xs : List (T c))
  | rr (c : Nat) (xss : List (List (T c)))
  | mach (m : M)
  | o
def aiB {T : Nat → Type} {M : Type} : List (Fl T M) → Bool
  | [] => true
  | f :: l => match f with
    | .i .. => aiB l
    | .b .. => aiB l
    | _ => false
structure KT where
  T : Nat → Type
  M : Type
  df : (c : Nat) → T c
  sz : Nat → Nat
  vw : (c : Nat) → T c → List (Fl T M)
  bk : (c : Nat) → List (Fl T M) → Option (T c)
  bk_ok : ∀ c l x, bk c l = some x → vw c x = l
  sz_ok : ∀ c x, (vw c x).length = sz c
  pl : Nat → Bool
  pl_ok : ∀ c, pl c = true → ∀ x, aiB (vw c x) = true
  nc : ∀ c x, ∀ f ∈ vw c x, ∀ u, f ≠ .c u
  tid : Nat → TypeId
  tk : TypeId → Option Nat
  spl : M → Option (Σ c : Nat, T c)
  nilM : M
  nilM_ok : spl nilM = none
  mkM : (c : Nat) → T c → Option M
  mkM_ok : ∀ c x m, mkM c x = some m → spl m = some ⟨c, x⟩
  kd : TypeId → Option Nat
  kd_ok : ∀ t c, kd t = some c → tid c = t
  ls : (c c' : Nat) → Option (PLift (T c' = List (T c)))
  ls_ok : ∀ c c' h, ls c c' = some h → ∀ x, vw c' x = [.ro c (h.down ▸ x)] ∨ (vw c' x = [.row c (h.down ▸ x)] ∧ pl c = true ∧ 0 < sz c)
section
variable {T : Nat → Type} {M : Type}
def flV : Fl T M → Value
  | .i k x => .int k x
  | .b x => .bool x
  | .c v => v
  | _ => undef
end
def rrS {α : Type} (enc : α → List Value) (sz : Nat) (A : Option Addr) (c : Nat) (xss : List (List α)) : aah := fun h => ∃ ps : List (Option Addr × Nat), ad1 (fun u => (xss.length ≤ 9223372036854775807 ∧ xss.length ≤ c) ∧
  ∀ (i : Nat) (xs : List α), xss[i]? = some xs → ∃ a, ps[i]? = some a ∧ (Sl enc sz u u.heap.size a.1 xs ∧ xs.length ≤ a.2) ∧ ∃ b o, A = some ⟨b, o, none⟩ ∧ b < u.heap.size ∧ u.cell? ⟨b, o + i, none⟩ = some (.slice a.1 xs.length a.2)) h
def akW (p : Prop) : aah := fun _ => p
theorem amf {p : Prop} {L : List aah} (h : p) : Ent L (akW p :: L) := fun k s => ⟨fun _ _ => none, k, fun _ _ => .inl rfl, by funext x y; rfl, h, s⟩
section
variable (K : KT)
abbrev KT.F := Fl K.T K.M
def aea (c : Nat) (x : K.T c) : List Value := (K.vw c x).map flV
abbrev ObS := (c : Nat) → K.T c → Nat × Nat → aah
abbrev RwS := (c : Nat) → List (K.T c) → Option Addr → Nat → aah
def pcW (ob : ObS K) (rw_ : RwS K) : Fl K.T K.M → Value → aah
  | .i k x, v => akW (v = .int k x)
  | .b x, v => akW (v = .bool x)
  | .c u, v => akW (v = u)
  | .own c x, v => fun h => ∃ q, v = .pointer (some ⟨q.1, q.2, none⟩) ∧ ob c x q h
  | .row c xs, v => fun h => ∃ A cap, v = .slice A xs.length cap ∧ rw_ c xs A cap h
  | .ro c xs, v => fun h => ∃ A cap, v = .slice A xs.length cap ∧ roS (aea K c) (K.sz c) A cap xs h
  | .rr c xss, v => fun h => ∃ A cap, v = .slice A xss.length cap ∧ rrS (aea K c) (K.sz c) A cap xss h
  | .mach m, v => fun h => match K.spl m with
    | none => v = .nilIface
    | some p => ∃ q, v = .iface (K.tid p.1) (.pointer (some ⟨q.1, q.2, none⟩)) ∧ ob p.1 p.2 q h
  | .o, v => akW (acA v = true)
end
def fsS {F : Type} (pc : F → Value → aah) : List F → List Value → List aah
  | [], [] => []
  | f :: fs, v :: vs => pc f v :: fsS pc fs vs
  | _, _ => [fun _ => False]
section
variable (K : KT)
def obW (pc : Fl K.T K.M → Value → aah) : ObS K := fun c x q h => ∃ vs, abh (pts q.1 q.2 vs :: fsS pc (K.vw c x) vs) h
def abJ (pc : Fl K.T K.M → Value → aah) (c : Nat) : List (K.T c) → List (List Value) → List aah
  | [], [] => []
  | x :: xs, vs :: vss => fsS pc (K.vw c x) vs ++ abJ pc c xs vss
  | _, _ => [fun _ => False]
def rwW (pc : Fl K.T K.M → Value → aah) : RwS K := fun c xs A cap h => ∃ vss : List (List Value), abh (ad9 A xs.length cap (K.sz c) vss.flatten :: abJ K pc c xs vss) h
def pcN : Nat → Fl K.T K.M → Value → aah
  | 0 => pcW K (fun _ _ _ _ => False) (fun _ _ _ _ _ => False)
  | n + 1 => pcW K (obW K (pcN n)) (rwW K (pcN n))
def pcS (f : Fl K.T K.M) (v : Value) : aah := fun h => ∃ n, pcN K n f v h
def obS : ObS K := fun c x q h => ∃ n, obW K (pcN K n) c x q h
def rwS : RwS K := fun c xs A cap h => ∃ n, rwW K (pcN K n) c xs A cap h
end
section
variable {K : KT}
theorem ain {F : Type} {pc pc' : F → Value → aah} (hm : ∀ f v h, pc f v h → pc' f v h) : ∀ (fs : List F) (vs : List Value) (L : List aah) (h : Hp), abh (fsS pc fs vs ++ L) h → abh (fsS pc' fs vs ++ L) h
  | [], [], _, _, s => s
  | f :: fs, v :: vs, L, h, s => aaF (hm f v) (aa7 (fun h s => ain hm fs vs L h s) s)
  | [], _ :: _, _, _, ⟨_, _, _, _, hf, _⟩ => hf.elim
  | _ :: _, [], _, _, ⟨_, _, _, _, hf, _⟩ => hf.elim
theorem aja {pc pc' : Fl K.T K.M → Value → aah} (hm : ∀ f v h, pc f v h → pc' f v h) {c : Nat} : ∀ (xs : List (K.T c)) (vss : List (List Value)) (L : List aah) (h : Hp), abh (abJ K pc c xs vss ++ L) h → abh (abJ K pc' c xs vss ++ L) h
  | [], [], _, _, s => s
  | x :: xs, vs :: vss, L, h, s => by
    simp only [abJ, List.append_assoc] at s ⊢
    have s1 := ain hm _ _ _ h s
    obtain ⟨k1, k2, a, e, h1, h2⟩ := aao.1 s1
    exact aao.2 ⟨k1, k2, a, e, h1, aja hm xs vss L k2 h2⟩
  | [], _ :: _, _, _, ⟨_, _, _, _, hf, _⟩ => hf.elim
  | _ :: _, [], _, _, ⟨_, _, _, _, hf, _⟩ => hf.elim
theorem auP {pc pc' : Fl K.T K.M → Value → aah} (hm : ∀ f v h, pc f v h → pc' f v h) (c : Nat) (x : K.T c) (q : Nat × Nat) (h : Hp) (s : obW K pc c x q h) : obW K pc' c x q h := by
  obtain ⟨vs, s⟩ := s
  refine ⟨vs, aa7 (fun k hk => ?_) s⟩
  have := ain hm (K.vw c x) vs [] k (by simpa using hk)
  simpa using this
theorem auu {pc pc' : Fl K.T K.M → Value → aah} (hm : ∀ f v h, pc f v h → pc' f v h) (c : Nat) (xs : List (K.T c)) (A : Option Addr) (cap : Nat) (h : Hp) (s : rwW K pc c xs A cap h) : rwW K pc' c xs A cap h := by
  obtain ⟨vs, s⟩ := s
  refine ⟨vs, aa7 (fun k hk => ?_) s⟩
  have := aja hm xs vs [] k (by simpa using hk)
  simpa using this
theorem ald {ob ob' : ObS K} {rw_ rw' : RwS K} (h1 : ∀ c x q h, ob c x q h → ob' c x q h) (h2 : ∀ c xs A cap h, rw_ c xs A cap h → rw' c xs A cap h) : ∀ f v h, pcW K ob rw_ f v h → pcW K ob' rw' f v h := by
  intro f v h hp
  cases f with
  | i k x => exact hp
  | b x => exact hp
  | c u => exact hp
  | own c x => obtain ⟨q, e, hq⟩ := hp; exact ⟨q, e, h1 _ _ _ _ hq⟩
  | row c xs => obtain ⟨A, cap, e, hq⟩ := hp; exact ⟨A, cap, e, h2 _ _ _ _ _ hq⟩
  | ro c xs => exact hp
  | rr c xss => exact hp
  | mach m =>
    simp only [pcW] at hp ⊢
    split at hp
    · exact hp
    · obtain ⟨q, e', hq⟩ := hp; exact ⟨q, e', h1 _ _ _ _ hq⟩
  | o => exact hp
theorem anG : ∀ (n : Nat) (f : Fl K.T K.M) (v : Value) (h : Hp), pcN K n f v h → pcN K (n + 1) f v h
  | 0, f, v, h, hp => ald (fun _ _ _ _ h => h.elim) (fun _ _ _ _ _ h => h.elim) f v h hp
  | n + 1, f, v, h, hp => ald (auP (anG n)) (auu (anG n)) f v h hp
theorem aqV {n m : Nat} (hle : n ≤ m) (f : Fl K.T K.M) (v : Value) (h : Hp) (hp : pcN K n f v h) : pcN K m f v h := by
  induction hle with
  | refl => exact hp
  | step _ ih => exact anG _ _ _ _ ih
theorem amb : ∀ (fs : List (Fl K.T K.M)) (vs : List Value) (h : Hp), abh (fsS (pcS K) fs vs) h → ∃ n, abh (fsS (pcN K n) fs vs) h
  | [], [], _, s => ⟨0, s⟩
  | f :: fs, v :: vs, h, ⟨k1, k2, a, e, ⟨n, hf⟩, hL⟩ => by
    obtain ⟨m, hm⟩ := amb fs vs k2 hL
    refine ⟨max n m, k1, k2, a, e, aqV (Nat.le_max_left ..) _ _ _ hf, ?_⟩
    have := ain (aqV (K := K) (Nat.le_max_right n m)) fs vs [] k2 (by simpa using hm)
    simpa using this
  | [], _ :: _, _, ⟨_, _, _, _, hf, _⟩ => hf.elim
  | _ :: _, [], _, ⟨_, _, _, _, hf, _⟩ => hf.elim
theorem amS {c : Nat} : ∀ (xs : List (K.T c)) (vss : List (List Value)) (h : Hp), abh (abJ K (pcS K) c xs vss) h → ∃ n, abh (abJ K (pcN K n) c xs vss) h
  | [], [], _, s => ⟨0, s⟩
  | x :: xs, vs :: vss, h, s => by
    obtain ⟨k1, k2, a, e, h1, h2⟩ := aao.1 s
    obtain ⟨n, hn⟩ := amb _ _ _ h1
    obtain ⟨m, hm⟩ := amS xs vss k2 h2
    refine ⟨max n m, aao.2 ⟨k1, k2, a, e, ?_, ?_⟩⟩
    · have := ain (aqV (K := K) (Nat.le_max_left n m)) (K.vw c x) vs [] k1 (by simpa using hn)
      simpa using this
    · have := aja (aqV (K := K) (Nat.le_max_right n m)) xs vss [] k2 (by simpa using hm)
      simpa using this
  | [], _ :: _, _, ⟨_, _, _, _, hf, _⟩ => hf.elim
  | _ :: _, [], _, ⟨_, _, _, _, hf, _⟩ => hf.elim
theorem azd {n : Nat} {fs : List (Fl K.T K.M)} {vs : List Value} {h : Hp} (s : abh (fsS (pcN K n) fs vs) h) : abh (fsS (pcS K) fs vs) h := by
  have := ain (pc := pcN K n) (pc' := pcS K) (fun f v h hp => ⟨n, hp⟩) fs vs [] h (by simpa using s)
  simpa using this
theorem aiQ {c : Nat} {x : K.T c} {q : Nat × Nat} {h : Hp} : obS K c x q h ↔ ∃ vs, abh (pts q.1 q.2 vs :: fsS (pcS K) (K.vw c x) vs) h := by
  constructor
  · rintro ⟨n, vs, s⟩
    exact ⟨vs, aa7 (fun _ => azd) s⟩
  · rintro ⟨vs, k1, k2, a, e, hp, hL⟩
    obtain ⟨n, hn⟩ := amb _ _ _ hL
    exact ⟨n, vs, k1, k2, a, e, hp, hn⟩
theorem act {c : Nat} {xs : List (K.T c)} {A : Option Addr} {cap : Nat} {h : Hp} : rwS K c xs A cap h ↔ ∃ vss : List (List Value), abh (ad9 A xs.length cap (K.sz c) vss.flatten :: abJ K (pcS K) c xs vss) h := by
  constructor
  · rintro ⟨n, vs, s⟩
    refine ⟨vs, aa7 (fun k hk => ?_) s⟩
    have := aja (pc := pcN K n) (pc' := pcS K) (fun f v h hp => ⟨n, hp⟩) xs vs [] k (by simpa using hk)
    simpa using this
  · rintro ⟨vs, k1, k2, a, e, hp, hL⟩
    obtain ⟨n, hn⟩ := amS _ _ _ hL
    exact ⟨n, vs, k1, k2, a, e, hp, hn⟩
theorem aaE {f : Fl K.T K.M} {v : Value} {h : Hp} : pcS K f v h ↔ pcW K (obS K) (rwS K) f v h := by
  constructor
  · rintro ⟨n, hp⟩
    cases n with
    | zero => exact ald (fun _ _ _ _ h => h.elim) (fun _ _ _ _ _ h => h.elim) f v h hp
    | succ n => exact ald (fun _ _ _ _ h => ⟨n, h⟩) (fun _ _ _ _ _ h => ⟨n, h⟩) f v h hp
  · intro hp
    cases f with
    | i k x => exact ⟨0, hp⟩
    | b x => exact ⟨0, hp⟩
    | c u => exact ⟨0, hp⟩
    | own c x => obtain ⟨q, e, n, hq⟩ := hp; exact ⟨n + 1, q, e, hq⟩
    | row c xs => obtain ⟨A, cap, e, n, hq⟩ := hp; exact ⟨n + 1, A, cap, e, hq⟩
    | ro c xs => exact ⟨0, hp⟩
    | rr c xss => exact ⟨0, hp⟩
    | mach m =>
      simp only [pcW] at hp
      split at hp
      · rename_i e; exact ⟨0, by simp only [pcN, pcW, e]; exact hp⟩
      · rename_i p e
        obtain ⟨q, e', n, hq⟩ := hp
        exact ⟨n + 1, by simp only [pcN, pcW, e]; exact ⟨q, e', hq⟩⟩
    | o => exact ⟨0, hp⟩
end
inductive Fd (T : Nat → Type) (M : Type) where
  | v (x : V)
  | f (x : Fl T M)
inductive Ch (T : Nat → Type) (M : Type) where
  | cells (fs : List (Fd T M))
  | row (c : Nat) (xs : List (T c))
  | ro (c : Nat) (xs : List (T c))
  | rr (c : Nat) (xss : List (List (T c)))
  | elt (j : Nat) (i : Int) (sz : Nat)
  | arr (m sz : Nat) (vs : List V)
  | mach (m : M)
  | any (A : aah)
  | hole (c : Nat) (xs : List (T c)) (i : Int) (o : Nat) (u : V)
  | gap (c : Nat) (xs : List (T c)) (i : Int) (e : Nat)
  | slc (e m sz : Nat)
section
variable (K : KT)
abbrev KT.D := Fd K.T K.M
abbrev KT.C := Ch K.T K.M
abbrev KT.H := List (Nat × Ch K.T K.M)
def fS (ρ : Env) : Fd K.T K.M → Value → aah
  | .v x, v => akW (v = aay ρ x)
  | .f x, v => pcS K x v
def aqs (ρ : Env) (id j sz : Nat) (i : Int) : Prop := (0 ≤ i ∧ i < ((ρ.s j).n : Int)) ∧ ∃ b o, (ρ.s j).a = some ⟨b, o, none⟩ ∧ ρ.p id = (b, o + i.toNat * sz)
def aA5 (A : Option Addr) (n cap c : Nat) (xs : List (K.T c)) (i : Int) (q : Nat × Nat) : aah := fun h => ∃ (b o : Nat) (vss : List (List Value)) (spare : List Value) (N : List aah), (0 ≤ i ∧ i < (xs.length : Int)) ∧ (A = some ⟨b, o, none⟩ ∧ n = xs.length ∧ q = (b, o + i.toNat * K.sz c)) ∧ (vss.length = xs.length ∧ ∀ v ∈ vss, v.length = K.sz c) ∧
  (xs.length ≤ cap ∧ cap ≤ maxLen ∧ spare.length = (cap - xs.length) * K.sz c) ∧ (∀ x' vs', (abJ K (pcS K) c (xs.set i.toNat x') (vss.set i.toNat vs')).Perm (fsS (pcS K) (K.vw c x') vs' ++ N)) ∧
  abh (pts b o (vss.flatten.take (i.toNat * K.sz c)) :: pts b (o + i.toNat * K.sz c + K.sz c) (vss.flatten.drop (i.toNat * K.sz c + K.sz c) ++ spare) :: N) h
def aAC (A : Option Addr) (cap c : Nat) (xs : List (K.T c)) (i : Int) (o : Nat) (v : Value) : aah := fun h => ∃ (x : K.T c) (vss : List (List Value)) (vs : List Value) (N : List aah),
  (xs[i.toNat]? = some x ∧ vss[i.toNat]? = some vs ∧ vs[o]? = some v) ∧ (∀ x', (abJ K (pcS K) c (xs.set i.toNat x') vss).Perm (fsS (pcS K) (K.vw c x') vs ++ N)) ∧ o < (K.vw c x).length ∧
  abh (ad9 A xs.length cap (K.sz c) vss.flatten :: (fsS (pcS K) ((K.vw c x).eraseIdx o) (vs.eraseIdx o) ++ N)) h
def abN (ρ : Env) (id : Nat) : Ch K.T K.M → aah
  | .cells fs => exL fun vs : List Value => pts (ρ.p id).1 (ρ.p id).2 vs :: fsS (fS K ρ) fs vs
  | .row c xs => fun h => (ρ.s id).n = xs.length ∧ rwS K c xs (ρ.s id).a (ρ.s id).c h
  | .ro c xs => fun h => (ρ.s id).n = xs.length ∧ roS (aea K c) (K.sz c) (ρ.s id).a (ρ.s id).c xs h
  | .rr c xss => fun h => (ρ.s id).n = xss.length ∧ rrS (aea K c) (K.sz c) (ρ.s id).a (ρ.s id).c xss h
  | .elt j i sz => akW (aqs ρ id j sz i)
  | .arr m sz vs => fun h => (ρ.s id = ⟨some ⟨(ρ.p id).1, (ρ.p id).2, none⟩, m, m⟩ ∧ vs.length = m * sz ∧ m ≤ maxLen) ∧ pts (ρ.p id).1 (ρ.p id).2 (aam ρ vs) h
  | .mach m => pcS K (.mach m) (ρ.v id)
  | .any A => A
  | .hole c xs i o u => fun h => (ρ.s id).n = xs.length ∧ aAC K (ρ.s id).a (ρ.s id).c c xs i o (aay ρ u) h
  | .gap c xs i e => aA5 K (ρ.s id).a (ρ.s id).n (ρ.s id).c c xs i (ρ.p e)
  | .slc e m sz => fun h => ((ρ.s id).a = some ⟨(ρ.p e).1, (ρ.p e).2, none⟩ ∧ (ρ.s id).n = m ∧ m ≤ (ρ.s id).c ∧ (ρ.s id).c ≤ maxLen) ∧ ∃ spare : List Value, spare.length = ((ρ.s id).c - m) * sz ∧ pts (ρ.p e).1 ((ρ.p e).2 + m * sz) spare h
def dH (ρ : Env) (H : KT.H K) : List aah := H.map fun p => abN K ρ p.1 p.2
end
section
variable {T : Nat → Type} {M : Type}
def avy : Fd T M → Nat
  | .v x => ahH x
  | .f _ => 0
def ai5 : List (Fd T M) → Nat
  | [] => 0
  | f :: fs => mx (avy f) (ai5 fs)
def aqy : Ch T M → Nat
  | .cells fs => ai5 fs
  | .elt j _ _ => j + 1
  | .arr _ _ vs => agS vs
  | .hole _ _ _ _ u => ahH u
  | .gap _ _ _ e => e + 1
  | .slc e _ _ => e + 1
  | _ => 0
def aeb : List (Nat × Ch T M) → Nat
  | [] => 0
  | p :: H => mx (mx (p.1 + 1) (aqy p.2)) (aeb H)
theorem ajD {a b n : Nat} (h : mx a b ≤ n) : a ≤ n ∧ b ≤ n := ⟨Nat.le_trans axX h, Nat.le_trans avN h⟩
end
section
variable {K : KT} {ρ ρ' : Env} {n : Nat}
theorem au5 (h : aaz n ρ ρ') (f : Fd K.T K.M) (hn : avy f ≤ n) : fS K ρ f = fS K ρ' f := by
  cases f with
  | v x => funext v; simp only [fS, aa0 h x hn]
  | f x => rfl
theorem amc (h : aaz n ρ ρ') : ∀ (fs : List (Fd K.T K.M)) (vs : List Value), ai5 fs ≤ n → fsS (fS K ρ) fs vs = fsS (fS K ρ') fs vs
  | [], [], _ => rfl
  | f :: fs, v :: vs, hn => by
    simp only [ai5] at hn
    simp only [fsS, au5 h f (ajD hn).1, amc h fs vs (ajD hn).2]
  | [], _ :: _, _ => rfl
  | _ :: _, [], _ => rfl
theorem adf (h : aaz n ρ ρ') {id : Nat} (hid : id < n) (c : Ch K.T K.M) (hn : aqy c ≤ n) : abN K ρ id c = abN K ρ' id c := by
  cases c with
  | cells fs =>
    simp only [aqy] at hn
    simp only [abN, (h id hid).1]
    congr 1
    funext vs
    rw [amc h fs vs hn]
  | row c xs => simp only [abN, (h id hid).2.1]
  | ro c xs => simp only [abN, (h id hid).2.1]
  | rr c xs => simp only [abN, (h id hid).2.1]
  | elt j i sz => simp only [aqy] at hn; simp only [abN, aqs, (h id hid).1, (h j (by omega)).2.1]
  | arr m sz vs => simp only [aqy] at hn; simp only [abN, (h id hid).1, (h id hid).2.1, ac8 h vs hn]
  | mach m => simp only [abN, (h id hid).2.2]
  | any A => rfl
  | hole c xs i o u => simp only [aqy] at hn; simp only [abN, (h id hid).2.1, aa0 h u hn]
  | gap c xs i e => simp only [aqy] at hn; simp only [abN, (h id hid).2.1, (h e (by omega)).1]
  | slc e m sz => simp only [aqy] at hn; simp only [abN, (h id hid).2.1, (h e (by omega)).1]
theorem abC (h : aaz n ρ ρ') : ∀ H : KT.H K, aeb H ≤ n → dH K ρ H = dH K ρ' H
  | [], _ => rfl
  | p :: H, hn => by
    simp only [aeb] at hn
    have h1 := ajD (ajD hn).1
    show abN K ρ p.1 p.2 :: dH K ρ H = abN K ρ' p.1 p.2 :: dH K ρ' H
    rw [abC h H (ajD hn).2, adf h h1.1 _ h1.2]
theorem anY {id : Nat} {L : List aah} : ∀ {H : KT.H K}, Ent (dH K ρ H ++ L) (dH K ρ (del H id) ++ L)
  | [] => Ent.refl
  | (t, c) :: H => by
    unfold del
    split
    · exact Ent.drop.trans anY
    · exact Ent.cons (fun _ h => h) anY
theorem aaR {id : Nat} {c : Ch K.T K.M} {L : List aah} : ∀ {H : KT.H K}, get H id = some c → Ent (dH K ρ H ++ L) (abN K ρ id c :: (dH K ρ (del H id) ++ L))
  | [], h => by cases h
  | (t, c') :: H, h => by
    unfold get at h
    unfold del
    split at h
    · rename_i e
      have e' : t = id := Nat.eq_of_beq_eq_true e
      simp only [Option.some.injEq] at h
      subst e' h
      exact Ent.cons (fun _ h => h) anY
    · have ih := aaR (L := L) (H := H) h
      exact (Ent.cons (A := abN K ρ t c') (fun _ h => h) ih).trans (Ent.perm (List.Perm.swap ..))
theorem ar0 {fs : List (Fd K.T K.M)} {i : Nat} {f : Fd K.T K.M} (h : fs[i]? = some f) : avy f ≤ ai5 fs := by
  induction fs generalizing i with
  | nil => cases h
  | cons g fs ih =>
    cases i with
    | zero => simp at h; subst h; exact axX
    | succ i => exact Nat.le_trans (ih (by simpa using h)) avN
theorem agT {id : Nat} {c : Ch K.T K.M} : ∀ {H : KT.H K}, get H id = some c → id < aeb H ∧ aqy c ≤ aeb H
  | [], h => by cases h
  | (t, c') :: H, h => by
    unfold get at h
    have hm := ajD (Nat.le_refl (aeb ((t, c') :: H)))
    split at h
    · rename_i e
      have e' : t = id := Nat.eq_of_beq_eq_true e
      simp only [Option.some.injEq] at h
      subst e' h
      exact ⟨(ajD hm.1).1, (ajD hm.1).2⟩
    · have := agT h
      exact ⟨Nat.lt_of_lt_of_le this.1 hm.2, Nat.le_trans this.2 hm.2⟩
theorem ael {id : Nat} : ∀ {H : KT.H K}, aeb (del H id) ≤ aeb H
  | [] => Nat.le_refl _
  | (t, c) :: H => by
    unfold del
    split
    · exact Nat.le_trans ael avN
    · exact amJ ⟨axX, Nat.le_trans ael avN⟩
theorem aim {F : Type} {pc : F → Value → aah} : ∀ {fs : List F} {vs : List Value} {i : Nat} {f : F} {v : Value}, fs[i]? = some f → vs[i]? = some v →
    (fsS pc fs vs).Perm (pc f v :: fsS pc (fs.eraseIdx i) (vs.eraseIdx i)) ∧ ∀ f' v', (fsS pc (fs.set i f') (vs.set i v')).Perm (pc f' v' :: fsS pc (fs.eraseIdx i) (vs.eraseIdx i))
  | [], _, _, _, _, h, _ => by cases h
  | _ :: _, [], _, _, _, _, h => by cases h
  | g :: fs, u :: vs, 0, f, v, h, h' => by
    simp at h h'; subst h h'
    exact ⟨.refl _, fun _ _ => .refl _⟩
  | g :: fs, u :: vs, i + 1, f, v, h, h' => by
    obtain ⟨h1, h2⟩ := aim (pc := pc) (fs := fs) (vs := vs) (i := i) (by simpa using h) (by simpa using h')
    exact ⟨(h1.cons _).trans (.swap ..), fun f' v' => ((h2 f' v').cons _).trans (.swap ..)⟩
theorem als {K : KT} : ∀ {fs : List (Fd K.T K.M)} {i : Nat}, ai5 (fs.eraseIdx i) ≤ ai5 fs
  | [], _ => Nat.le_refl _
  | _ :: _, 0 => avN
  | _ :: _, _ + 1 => amJ ⟨axX, Nat.le_trans als avN⟩
theorem anu {α : Type} {l : List α} {i : Nat} {a : α} (h : l[i]? = some a) : l.set i a = l := by
  obtain ⟨hlt, rfl⟩ := List.getElem?_eq_some_iff.1 h
  simp
theorem ap7 {F : Type} {pc : F → Value → aah} : ∀ {fs : List F} {vs : List Value} {L : List aah} {h : Hp}, abh (fsS pc fs vs ++ L) h → fs.length = vs.length
  | [], [], _, _, _ => rfl
  | _ :: fs, _ :: vs, L, _, ⟨_, _, _, _, _, s⟩ => by simp [ap7 s]
  | [], _ :: _, _, _, ⟨_, _, _, _, hf, _⟩ => hf.elim
  | _ :: _, [], _, _, ⟨_, _, _, _, hf, _⟩ => hf.elim
theorem ahM {F : Type} {pc : F → Value → aah} {fs : List F} {vs : List Value} {B : Nat} {w : World} {A : aah} {L : List aah} (s : Sat B w (A :: (fsS pc fs vs ++ L))) : fs.length = vs.length := by
  obtain ⟨h, _, k1, k2, _, _, _, hL⟩ := s
  exact ap7 hL
theorem Sat.pure {B : Nat} {w : World} {p : Prop} {L : List aah} (s : Sat B w (akW p :: L)) : p := by
  obtain ⟨h, _, k1, k2, _, _, hA, _⟩ := s
  exact hA
theorem avn {B : Nat} {w : World} {H : KT.H K} {X : List aah} {id o : Nat} {fs : List (Fd K.T K.M)} {f : Fd K.T K.M} (s : Sat B w (dH K ρ H ++ X)) (hg : get H id = some (.cells fs)) (hf : fs[o]? = some f) :
    ∃ vs v, vs[o]? = some v ∧ fs.length = vs.length ∧ Sat B w (pts (ρ.p id).1 (ρ.p id).2 vs :: (fsS (fS K ρ) fs vs ++ (dH K ρ (del H id) ++ X))) ∧ w.cell? ⟨(ρ.p id).1, (ρ.p id).2 + o, none⟩ = some v := by
  have s1 := s.imp (aaR (ρ := ρ) hg)
  obtain ⟨vs, s2⟩ := afQ s1
  have hl := ahM s2
  have ho : o < vs.length := by rw [← hl]; exact (List.getElem?_eq_some_iff.1 hf).1
  exact ⟨vs, vs[o], List.getElem?_eq_getElem ho, hl, s2, (s2.cell (List.getElem?_eq_getElem ho)).2.1⟩
theorem asf {B : Nat} {w : World} {A P : aah} {X Y L : List aah} (s : Sat B w (A :: (X ++ L))) (p : X.Perm (P :: Y)) : Sat B w (P :: A :: (Y ++ L)) :=
  s.perm ((List.Perm.cons _ (p.append_right L)).trans (List.Perm.swap ..))
end
def Env.setP (ρ : Env) (n : Nat) (q : Nat × Nat) : Env := { ρ with p := fun i => if i = n then q else ρ.p i }
def Env.setS (ρ : Env) (n : Nat) (q : Sle) : Env := { ρ with s := fun i => if i = n then q else ρ.s i }
def Env.setV (ρ : Env) (n : Nat) (q : Value) : Env := { ρ with v := fun i => if i = n then q else ρ.v i }
theorem agN (ρ : Env) (n : Nat) (q : Nat × Nat) : aaz n ρ (ρ.setP n q) := fun k hk => ⟨by simp only [Env.setP]; rw [if_neg (by omega)], rfl, rfl⟩
theorem abD (ρ : Env) (n : Nat) (q : Sle) : aaz n ρ (ρ.setS n q) := fun k hk => ⟨rfl, by simp only [Env.setS]; rw [if_neg (by omega)], rfl⟩
theorem ank (ρ : Env) (n : Nat) (q : Value) : aaz n ρ (ρ.setV n q) := fun k hk => ⟨rfl, rfl, by simp only [Env.setV]; rw [if_neg (by omega)]⟩
section
variable {T : Nat → Type} {M : Type}
def opF (vw : (c : Nat) → T c → List (Fl T M)) (n : Nat) : Fd T M → V × Option (Ch T M)
  | .v x => (x, none)
  | .f (.i k x) => (.i k x, none)
  | .f (.b x) => (.b x, none)
  | .f (.c u) => (aub u, none)
  | .f (.own c x) => (.ptr n 0, some (.cells ((vw c x).map .f)))
  | .f (.row c xs) => (.sl n, some (.row c xs))
  | .f (.ro c xs) => (.sl n, some (.ro c xs))
  | .f (.rr c xs) => (.sl n, some (.rr c xs))
  | .f (.mach m) => (.mc n, some (.mach m))
  | .f .o => (.mc n, some (.any fun _ => True))
end
section
variable {K : KT}
theorem al9 (pc : Fl K.T K.M → Value → aah) (pc' : Fd K.T K.M → Value → aah) (h : ∀ x v, pc' (.f x) v = pc x v) : ∀ (l : List (Fl K.T K.M)) (vs : List Value), fsS pc' (l.map .f) vs = fsS pc l vs
  | [], [] => rfl
  | f :: fs, v :: vs => by simp only [List.map_cons, fsS, h, al9 pc pc' h fs vs]
  | [], _ :: _ => rfl
  | _ :: _, [] => rfl
theorem avi (u : Value) : ahH (aub u) = 0 := by cases u <;> rfl
theorem asR {ρ : Env} {n : Nat} {f : Fd K.T K.M} {v : Value} {k : Hp} (hn : avy f ≤ n) (h : fS K ρ f v k) :
    ∃ ρ', aaz n ρ ρ' ∧ v = aay ρ' (opF K.vw n f).1 ∧ (match (opF K.vw n f).2 with | none => True | some c => abN K ρ' n c k) := by
  cases f with
  | v x => exact ⟨ρ, aaz.refl _ _, h, trivial⟩
  | f x =>
    have h2 : pcS K x v k := h
    rw [aaE] at h2
    cases x with
    | i k x => exact ⟨ρ, aaz.refl _ _, h2, trivial⟩
    | b x => exact ⟨ρ, aaz.refl _ _, h2, trivial⟩
    | c u => exact ⟨ρ, aaz.refl _ _, by rw [opF, ag9]; exact h2, trivial⟩
    | own c x =>
      obtain ⟨q, e, ho⟩ := h2
      refine ⟨ρ.setP n q, agN _ _ _, ?_, ?_⟩
      · rw [e]; simp [opF, aay, Env.setP]
      · rw [aiQ] at ho
        obtain ⟨vs, s⟩ := ho
        refine ⟨vs, ?_⟩
        simp only [Env.setP, if_true]
        rw [al9 (pcS K) _ (fun x v => rfl)]
        exact s
    | row c xs =>
      obtain ⟨A, cap, e, ho⟩ := h2
      refine ⟨ρ.setS n ⟨A, xs.length, cap⟩, abD _ _ _, ?_, ?_, ?_⟩
      · rw [e]; simp [opF, aay, Env.setS]
      · simp [Env.setS]
      · simpa [Env.setS] using ho
    | ro c xs =>
      obtain ⟨A, cap, e, ho⟩ := h2
      refine ⟨ρ.setS n ⟨A, xs.length, cap⟩, abD _ _ _, ?_, ?_, ?_⟩
      · rw [e]; simp [opF, aay, Env.setS]
      · simp [Env.setS]
      · simpa [Env.setS] using ho
    | rr c xs =>
      obtain ⟨A, cap, e, ho⟩ := h2
      refine ⟨ρ.setS n ⟨A, xs.length, cap⟩, abD _ _ _, ?_, ?_, ?_⟩
      · rw [e]; simp [opF, aay, Env.setS]
      · simp [Env.setS]
      · simpa [Env.setS] using ho
    | mach m =>
      refine ⟨ρ.setV n v, ank _ _ _, ?_, ?_⟩
      · simp [opF, aay, Env.setV]
      · simp only [opF, abN, Env.setV, if_true]
        exact h
    | o => exact ⟨ρ.setV n v, ank _ _ _, by simp [opF, aay, Env.setV], trivial⟩
theorem ag0 {n : Nat} {f : Fd K.T K.M} (hn : avy f ≤ n) : ahH (opF K.vw n f).1 ≤ n + 1 ∧ (∀ c, (opF K.vw n f).2 = some c → aqy c ≤ n) := by
  cases f with
  | v x => exact ⟨Nat.le_succ_of_le hn, fun c h => by cases h⟩
  | f x =>
    cases x <;> refine ⟨?_, fun c h => ?_⟩ <;> simp only [opF, ahH, avi] at * <;> first | omega | (cases h; done) | (cases h; simp only [aqy]) <;> try omega
    · rename_i c x
      have : ∀ l : List (Fl K.T K.M), ai5 (l.map (Fd.f : Fl K.T K.M → Fd K.T K.M)) = 0 := fun l => by
        induction l with
        | nil => rfl
        | cons y l ih => simp only [List.map_cons, ai5, ih, avy]; rfl
      rw [this]; omega
end
end
end Go.Proofs.YtlcelajkhklkbaaGreat
