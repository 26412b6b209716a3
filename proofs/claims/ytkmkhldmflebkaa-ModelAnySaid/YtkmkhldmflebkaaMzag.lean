/- Evaluation by itself, 8: operations, regions. No program occurs here. -/
import Derived.Test.YtkmkhldmflebkaaMzac
import Derived.Test.YtkmkhldmflebkaaMzaf
set_option linter.all false
namespace Go.Proofs.Ytkmkhldmflebkaa
open Go Go.RowKit
section
variable (K : KT)
def rd1 (H : KT.H K) (id o : Nat) : Option V := match opn K 0 H id o with
  | some (false, _, v) => some v
  | _ => none
def rdN (H : KT.H K) (id : Nat) : Nat → Nat → Option (List V)
  | 0, _ => some []
  | k + 1, o => match rd1 K H id o with
    | some v => match rdN H id k (o + 1) with
      | some l => some (v :: l)
      | none => none
    | none => none
def ldV (P : Program) (H : KT.H K) (T : TypeId) (x : V) : Option V :=
  match x with
  | .ptr id o => match acT P T with
    | some none => rd1 K H id o
    | some (some k) => (rdN K H id k o).map .agg
    | none => none
  | _ => none
end
section
variable {K : KT} {P : Program} {B : Nat}
theorem akV {H : KT.H K} {id o : Nat} {v : V} (h : rd1 K H id o = some v) {ρ : Env} {w : World} {X : List aag} (s : Sat B w (dH K ρ H ++ X)) : w.cell? ⟨(ρ.p id).1, (ρ.p id).2 + o, none⟩ = some (aap ρ v) := by
  unfold rd1 at h
  split at h
  · rename_i h1
    cases h
    obtain ⟨ρ', ⟨_, he⟩, _, hc⟩ := ajt (X := fun _ => X) h1 (fun e => by cases e) s
    obtain rfl := he rfl
    exact hc
  · cases h
theorem akU {H : KT.H K} {id : Nat} : ∀ {k o : Nat} {l : List V}, rdN K H id k o = some l → ∀ {ρ : Env} {w : World} {X : List aag}, Sat B w (dH K ρ H ++ X) → l.length = k ∧ ∀ j v, (aak ρ l)[j]? = some v → w.cell? ⟨(ρ.p id).1, (ρ.p id).2 + o + j, none⟩ = some v
  | 0, o, l, h, ρ, w, X, s => by cases h; exact ⟨rfl, fun j v hj => by simp [aak] at hj⟩
  | k + 1, o, l, h, ρ, w, X, s => by
    unfold rdN at h
    split at h
    · rename_i v h1
      split at h
      · rename_i l' h2
        cases h
        obtain ⟨hl, hc⟩ := akU h2 s
        refine ⟨by simp [hl], fun j u hj => ?_⟩
        cases j with
        | zero =>
          simp only [aak, List.getElem?_cons_zero, Option.some.injEq] at hj
          rw [← hj]; exact akV h1 s
        | succ j =>
          simp only [aak, List.getElem?_cons_succ] at hj
          rw [← hc j u hj]; congr 2; omega
      · cases h
    · cases h
theorem aqf {o : Oper} {H : KT.H K} {T : TypeId} {x : Operand} {u v : V} {R : aaM} {nt : Nat} (ho : o.op = .load T x) (hx : evO R x = some u) (h : ldV K P H T u = some v) {ρ : Env} {a : Act} {w : World} {X : List aag} (r : Regs nt a (dR ρ R)) (s : Sat B w (dH K ρ H ++ X)) :
    (execOp a.eval o).run P w = .ok (.value (aap ρ v)) w := by
  obtain ⟨d, op, ty, ps, af, g⟩ := o
  simp only at ho
  subst ho
  have ex := (aaA (ρ := ρ) hx).eval r
  unfold ldV at h
  split at h
  · rename_i id o'
    have fin : (Instr.loadAt T (.pointer (some ⟨(ρ.p id).1, (ρ.p id).2 + o', none⟩))).run P w = .ok (aap ρ v) w → (execOp a.eval ⟨d, .load T x, ty, ps, af, g⟩).run P w = .ok (.value (aap ρ v)) w := fun h6 => by
      simp only [execOp, ex, aap]
      rw [aae h6]; rfl
    split at h
    · rename_i hT
      exact fin (afa hT (akV h s))
    · rename_i k hT
      simp only [Option.map_eq_some_iff] at h
      obtain ⟨l, hl, rfl⟩ := h
      obtain ⟨h1, h2⟩ := akU hl s
      exact fin (afn hT (by rw [aaJ]; simpa using h1) h2 rfl)
    · cases h
  · cases h
end
section
variable (K : KT)
def aqA (P : Program) (R : aaM) (n : Nat) (Z H : KT.H K) (T : TypeId) (x : V) : Option (Nat × KT.H K × V) :=
  match x with
  | .ptr id o => match acT P T with
    | some none => match get (H ++ Z) id with
      | some (.elt j i sz) => match get (H ++ Z) j with
        | some (.rr c xss) => match Nat.beq sz 1 && Nat.beq o 0 && (Nat.ble (ac2 (H ++ Z)) n && Nat.ble (akI R) n) with
          | true => some (n + 1, (n, .ro c (atL [] xss i)) :: H, .sl n)
          | false => none
        | _ => none
      | _ => none
    | _ => none
  | _ => none
end
section
variable {K : KT} {P : Program} {nt n B : Nat} {W : World} {R : aaM} {Z H : KT.H K} {nx : Nat → KT.H K → V → Prop}
theorem ahK {ρ : Env} (H H' : KT.H K) : dH K ρ (H ++ H') = dH K ρ H ++ dH K ρ H' := by simp [dH]
theorem apW {ρ : Env} {j c : Nat} {xss : List (List (K.T c))} (hg : get H j = some (.rr c xss)) {X : List aag} : Ent (dH K ρ H ++ X) (aby K ρ j (.rr c xss) :: (dH K ρ H ++ X)) := fun h0 t0 => by
  obtain ⟨j1, j2, a1, e1, ⟨m1, ps, m2⟩, mL⟩ := aaK (ρ := ρ) hg h0 t0
  obtain ⟨p, hp, hΦ⟩ := m2
  have hpp : ∀ b o x, p b o = some x → (∃ v, x = .look v) ∧ h0 b o = some x := fun b o x hx => ⟨(hp b o x hx).1, by rw [e1]; unfold abO; rw [(hp b o x hx).2]⟩
  refine ⟨p, h0, fun b o => ?_, ?_, ⟨m1, ps, p, fun b o x hx => ⟨(hpp b o x hx).1, hx⟩, hΦ⟩, t0⟩
  · cases hpb : p b o with
    | none => exact .inl rfl
    | some x =>
      obtain ⟨⟨v, rfl⟩, h2⟩ := hpp b o x hpb
      exact .inr (.inr ⟨v, rfl, h2⟩)
  · funext b o
    unfold abO
    cases hpb : p b o with
    | none => rfl
    | some x => exact (hpp b o x hpb).2
theorem alr {o : Oper} {T : TypeId} {x : Operand} {u v : V} {n' : Nat} {H' : KT.H K} (ho : o.op = .load T x) (hx : evO R x = some u) (h : aqA K P R n Z H T u = some (n', H', v)) (hn : nx n' H' v) : aco K P nt B W o R n Z H nx := fun F ρ a w s => by
  obtain ⟨d, op, ty, ps, af, g⟩ := o
  simp only at ho
  subst ho
  have ex := (aaA (ρ := ρ) hx).eval s.regs
  unfold aqA at h
  split at h
  · rename_i id o'
    split at h
    · rename_i hT
      split at h
      · rename_i j i sz hgi
        split at h
        · rename_i c xss hgj
          split at h
          · rename_i hB
            cases h
            simp only [Bool.and_eq_true] at hB
            obtain ⟨⟨b1, b2⟩, b3, b4⟩ := hB
            have hn1 : ac2 (H ++ Z) ≤ n := Nat.le_of_ble_eq_true b3
            have hji := aer hgi
            have hjn : j < n := Nat.lt_of_lt_of_le (aer hgj).1 hn1
            have hin : id < n := Nat.lt_of_lt_of_le hji.1 hn1
            have s0 : Sat B w (dH K ρ (H ++ Z) ++ [F]) := by rw [ahK, List.append_assoc]; exact s.sat
            have he := ajJ s0 hgi
            have s1 := s0.imp (apW (ρ := ρ) hgj)
            have s2 : Sat B w (dH K ρ [(id, .elt j i sz), (j, .rr c xss)] ++ (dH K ρ (H ++ Z) ++ [F])) := abb s1 fun k => he
            have hne : Nat.beq id j = false := by
              cases hq : Nat.beq id j with
              | false => rfl
              | true =>
                have := Nat.eq_of_beq_eq_true hq
                subst this
                rw [hgi] at hgj; cases hgj
            have hop : opn K n [(id, .elt j i sz), (j, .rr c xss)] id o' = some (true, (n, .ro c (atL [] xss i)) :: (j, .rr c xss) :: del [(id, .elt j i sz), (j, .rr c xss)] j, .sl n) := by
              have g1 : get [(id, (Ch.elt j i sz : Ch K.T K.M)), (j, .rr c xss)] id = some (.elt j i sz) := by unfold get; rw [Nat.beq_refl]
              have g2 : get [(id, (Ch.elt j i sz : Ch K.T K.M)), (j, .rr c xss)] j = some (.rr c xss) := by unfold get; rw [hne]; simp only [get]; rw [Nat.beq_refl]
              have g3 : Nat.ble (ac2 [(id, (Ch.elt j i sz : Ch K.T K.M)), (j, .rr c xss)]) n = true := by
                refine Nat.ble_eq_true_of_le ?_
                refine ahS ⟨ahS ⟨hin, ?_⟩, ahS ⟨ahS ⟨hjn, Nat.zero_le _⟩, Nat.zero_le _⟩⟩
                exact hjn
              unfold opn
              simp only [g1, g2, b1, b2, g3, Bool.and_self]
            obtain ⟨ρ', ⟨ha, _⟩, s3, hc⟩ := ajt (X := fun ρ => dH K ρ (H ++ Z) ++ [F]) hop (fun _ ρ' ha => by rw [abg ha _ hn1]) s2
            have s4 : Sat B w (dS K ρ' Z ((n, .ro c (atL [] xss i)) :: H) F) := by
              have e : dS K ρ' Z ((n, .ro c (atL [] xss i)) :: H) F = aby K ρ' n (.ro c (atL [] xss i)) :: (dH K ρ' (H ++ Z) ++ [F]) := by
                rw [ahK, List.append_assoc]; rfl
              rw [e]
              refine s3.imp fun k hk => ?_
              exact aa5 (fun q hq => ac3 (L := dH K ρ' ((j, .rr c xss) :: del [(id, .elt j i sz), (j, .rr c xss)] j)) hq) hk
            have : (execOp a.eval ⟨d, .load T x, ty, ps, af, g⟩).run P w = .ok (.value (aap ρ' (.sl n))) w := by
              simp only [execOp, ex, aap]
              rw [aae (afa hT hc)]; rfl
            rw [this]
            exact ⟨⟨ρ', n + 1, (n, .ro c (atL [] xss i)) :: H, .sl n⟩, rfl, ⟨ha, Nat.le_succ _, (aa1 ha _ (Nat.le_of_ble_eq_true b4)).symm, hn⟩, s.below, s.lo, s4⟩
          · cases h
        · cases h
      · cases h
    · cases h
  · cases h
end
def aew : Nat := 1000000000
def mI (name : String) : Option Nat := if name = "Step" then some 0 else if name = "Result" then some 1 else if name = "Copy" then some 2 else none
def mN : Nat → String
  | 0 => "Step"
  | 1 => "Result"
  | _ => "Copy"
theorem asX {name : String} {i : Nat} (h : mI name = some i) : mN i = name := by
  unfold mI at h
  split at h
  · cases h; rename_i e; exact e.symm
  · split at h
    · cases h; rename_i e; exact e.symm
    · split at h
      · cases h; rename_i e; exact e.symm
      · cases h
def aeo (P : Program) (fid : FuncId) (args : Array Value) (w : World) (Q : Ending → World → Prop) : Prop :=
  match Nat.blt fid aew with
  | true => Calls P fid args w Q
  | false => ∃ (T : TypeId) (u : Value) (rest : Array Value) (f : FuncId), args = #[.iface T u] ++ rest ∧ (∀ w', (callMethod (.iface T u) (mN (fid - aew)) rest).run P w' = .ok (.enter f (#[u] ++ rest)) w') ∧ Calls P f (#[u] ++ rest) w Q
theorem ac8 {P : Program} {fid : FuncId} {args : Array Value} {w : World} {Q : Ending → World → Prop} (h : Nat.blt fid aew = true) : aeo P fid args w Q = Calls P fid args w Q := by
  unfold aeo; rw [h]
theorem akw {P : Program} {i : Nat} {args : Array Value} {w : World} {Q : Ending → World → Prop} : aeo P (aew + i) args w Q = ∃ (T : TypeId) (u : Value) (rest : Array Value) (f : FuncId), args = #[.iface T u] ++ rest ∧ (∀ w', (callMethod (.iface T u) (mN i) rest).run P w' = .ok (.enter f (#[u] ++ rest)) w') ∧ Calls P f (#[u] ++ rest) w Q := by
  have h : Nat.blt (aew + i) aew = false := by
    cases hb : Nat.blt (aew + i) aew with
    | false => rfl
    | true => have := Nat.le_of_ble_eq_true hb; omega
  unfold aeo
  rw [h, show aew + i - aew = i by omega]
theorem aeo.mono {P : Program} {fid : FuncId} {args : Array Value} {w : World} {Q Q' : Ending → World → Prop} (h : aeo P fid args w Q) (hq : ∀ e w', Q e w' → Q' e w') : aeo P fid args w Q' := by
  unfold aeo at h ⊢
  split at h
  · exact Calls.mono h hq
  · obtain ⟨T, u, rest, f, e, h1, h2⟩ := h
    exact ⟨T, u, rest, f, e, h1, Calls.mono h2 hq⟩
def aqd (P : Program) (T : TypeId) (name : String) : Option FuncId :=
  match P.info? T with
  | some ti => match ti.methods.find? (fun m => m.name == name) with
    | some m => match m.path.toList with
      | [] => match m.func with
        | some (f, true) => match P.underlying T with
          | some (.pointer _) => some f
          | _ => none
        | _ => none
      | _ => none
    | none => none
  | none => none
theorem aop {P : Program} {T : TypeId} {name : String} {f : FuncId} (h : aqd P T name = some f) (hc : akx P f = true) (u : Value) (vs : Array Value) (w : World) :
    (callMethod (.iface T u) name vs).run P w = .ok (.enter f (#[u] ++ vs)) w := by
  unfold aqd at h
  split at h
  · rename_i ti hti
    split at h
    · rename_i m hm
      split at h
      · rename_i hp
        split at h
        · rename_i g hg
          split at h
          · rename_i el hu
            cases h
            have h1 : (typeInfo T).run P w = .ok ti w := by
              unfold typeInfo
              rw [aae (a := P) (w' := w) rfl, hti]; rfl
            have h2 : (underlying T).run P w = .ok (.pointer el) w := by
              unfold underlying
              rw [aae (a := P) (w' := w) rfl, hu]; rfl
            have h3 : ∀ s, (receiverAt T (.val u) true s).run P w = .ok u w := fun s => by
              unfold receiverAt
              rw [aae h2]; rfl
            have h4 : ∀ k, (method (k + 1) T u name).run P w = .ok (f, u) w := fun k => by
              unfold method
              rw [aae h1]
              simp only [hm, hp]
              rw [aae (a := (T, Place.val u)) (w' := w) rfl]
              simp only [hg]
              rw [aae (h3 _)]; rfl
            unfold callMethod
            rw [aae (a := P) (w' := w) rfl]
            rw [show P.types.size + Made.depth = (P.types.size + Made.depth - 1) + 1 from (Nat.succ_pred_eq_of_pos (Nat.lt_of_lt_of_le (by decide) (Nat.le_add_left _ _))).symm]
            rw [aae (h4 _)]
            exact alh hc _
          · cases h
        · cases h
      · cases h
    · cases h
  · cases h
theorem ajw {P : Program} {a : Act} {w : World} {x : Operand} {name : String} {f : FuncId} {xs : Array Operand} {ts : Array TypeId} {vs : List Value} {T : TypeId} {u : Value} {d : Option Tmp} {ty : TypeId} {ps : String} {af : Array Edge} {g : Option (Nat × Bool)} (hx : a.eval x = .iface T u) (hxs : xs.toList.map a.eval = vs) (hc : (callMethod (.iface T u) name vs.toArray).run P w = .ok (.enter f (#[u] ++ vs.toArray)) w) :
    (execOp a.eval ⟨d, .call ⟨.invoke x name, xs, ts⟩, ty, ps, af, g⟩).run P w = .ok (.enter f (#[u] ++ vs.toArray)) w := by
  have e : xs.map a.eval = vs.toArray := by apply Array.ext'; rw [Array.toList_map, hxs]
  simp only [execOp, resolve, e, hx]
  rw [aae (a := ({ target := .fn (.method name) #[], args := #[.iface T u] ++ vs.toArray } : Deferred)) (w' := w) rfl]
  simp only [invoke]
  have e0 : (#[Value.iface T u] ++ vs.toArray)[0]? = some (.iface T u) := by simp
  have e1 : (#[Value.iface T u] ++ vs.toArray).extract 1 (#[Value.iface T u] ++ vs.toArray).size = vs.toArray := by apply Array.ext'; simp
  rw [e0, e1]
  exact hc
def ajE {α : Type} (j : Int) (f : Nat → Option α) : Nat → Option α
  | 0 => none
  | m + 1 => if j = ((m : Nat) : Int) then f m else ajE j f m
theorem afr {α : Type} {j : Int} {f : Nat → Option α} {out : α} : ∀ {m : Nat}, ajE j f m = some out → ∃ i, i < m ∧ j = ((i : Nat) : Int) ∧ f i = some out
  | 0, h => by cases h
  | m + 1, h => by
    unfold ajE at h
    split at h
    · rename_i e; exact ⟨m, Nat.lt_succ_self m, e, h⟩
    · obtain ⟨i, h1, h2⟩ := afr h
      exact ⟨i, Nat.lt_succ_of_lt h1, h2⟩
def aq2 (P : Program) (R : aaM) (T : TypeId) (x y : Operand) : Option ((Nat × Nat) × (Nat × Int × Nat) × IntKind) :=
  match evO R x with
  | some (.ptr id o) => match P.underlying T with
    | some (.array len elem) => match evO R y with
      | some u => match afD u with
        | some (k, j, _) => match P.info? elem with
          | some inf => some ((id, o), (len, j, inf.size), k)
          | none => none
        | none => none
      | none => none
    | _ => none
  | _ => none
theorem am1 {P : Program} {ρ : Env} {R : aaM} {T : TypeId} {x y : Operand} {id o len sz : Nat} {j : Int} {kk : IntKind} (h : aq2 P R T x y = some ((id, o), (len, j, sz), kk)) {nt : Nat} {a : Act} (r : Regs nt a (dR ρ R)) {i : Nat} (hi : i < len) (hj : j = ((i : Nat) : Int))
    {d : Option Tmp} {ty : TypeId} {ps : String} {af : Array Edge} {g : Option (Nat × Bool)} (w : World) : (execOp a.eval ⟨d, .indexAddr T x y, ty, ps, af, g⟩).run P w = .ok (.value (aap ρ (.ptr id (o + i * sz)))) w := by
  unfold aq2 at h
  split at h
  · rename_i id' o' hx
    have ex := (aaA (ρ := ρ) hx).eval r
    split at h
    · rename_i len' elem hu
      split at h
      · rename_i u hy
        split at h
        · rename_i k j' l hi'
          have ey := (abf (ρ := ρ) hy hi').eval r
          split at h
          · rename_i inf hinf
            cases h
            subst hj
            have h1 : (0 : Int) ≤ ((i : Nat) : Int) ∧ ((i : Nat) : Int) < (len : Int) := by omega
            have h2 : (Instr.indexAt T (.pointer (some ⟨(ρ.p id).1, (ρ.p id).2 + o, none⟩)) (.int kk ((i : Nat) : Int))).run P w = .ok (.pointer (some ⟨(ρ.p id).1, (ρ.p id).2 + (o + i * inf.size), none⟩)) w := by
              simp [Instr.indexAt, asIntOf, abp hu, sizeOf, abn hinf, h1, hi, Instr.sureAddr, abd, Nat.add_assoc]
            simp only [execOp, ex, ey, aap]
            rw [aae h2]; rfl
          · cases h
        · cases h
      · cases h
    · cases h
  · cases h
def atd (P : Program) (R : aaM) (T : TypeId) (x y : Operand) : Option ((Nat × Nat) × (Nat × Int × Nat) × Int) :=
  match evO R x with
  | some (.vs id o k c) => match adq P T with
    | some sz => match evO R y with
      | some u => match afD u with
        | some (_, j, _) => some ((id, o), (c, j, sz), k)
        | none => none
      | none => none
    | none => none
  | _ => none
theorem aqB {P : Program} {ρ : Env} {R : aaM} {T : TypeId} {x y : Operand} {id o len sz : Nat} {j kb : Int} (h : atd P R T x y = some ((id, o), (len, j, sz), kb)) (hb : j < kb) {nt : Nat} {a : Act} (r : Regs nt a (dR ρ R)) {i : Nat} (hj : j = ((i : Nat) : Int))
    {d : Option Tmp} {ty : TypeId} {ps : String} {af : Array Edge} {g : Option (Nat × Bool)} (w : World) : (execOp a.eval ⟨d, .indexAddr T x y, ty, ps, af, g⟩).run P w = .ok (.value (aap ρ (.ptr id (o + i * sz)))) w := by
  unfold atd at h
  split at h
  · rename_i id' o' k' c' hx
    have ex := aaA (ρ := ρ) hx
    split at h
    · rename_i sz' hsz
      split at h
      · rename_i u hy
        split at h
        · rename_i kk j' l hi
          have ey := abf (ρ := ρ) hy hi
          cases h
          subst hj
          have := (aet (P := P) (n := nt) (d := d) (ty := ty) (ps := ps) (af := af) (g := g) (i := i) (o' := (ρ.p id).2 + (o + i * sz)) ex ey rfl (by omega) hsz (by omega)) a w r
          simpa only [aap] using this
        · cases h
      · cases h
    · cases h
  · cases h
def aso (R : aaM) (y : Operand) (k : IntKind) (i : Nat) : aaM := match y with
  | .tmp t => match get R t with
    | some (.i _ _) => (t, .l k ((i : Nat) : Int)) :: del R t
    | _ => R
  | _ => R
theorem aiK {α : Type} {t : Nat} {v : α} {C : List (Nat × α)} : ∀ {R : List (Nat × α)}, get R t = some v → get (R ++ C) t = some v
  | [], h => by cases h
  | (t', v') :: R, h => by
    rw [List.cons_append]
    unfold get at h ⊢
    cases hb : Nat.beq t' t with
    | true => rw [hb] at h; exact h
    | false => rw [hb] at h; exact aiK h
theorem aoG {P : Program} {ρ : Env} {R : aaM} {T : TypeId} {x y : Operand} {q : Nat × Nat} {len sz : Nat} {j : Int} {kk : IntKind} (h : aq2 P R T x y = some (q, (len, j, sz), kk)) : ∃ u, evO R y = some u ∧ aap ρ u = .int kk j := by
  unfold aq2 at h
  split at h
  · split at h
    · split at h
      · rename_i u hy
        split at h
        · rename_i hi
          split at h
          · cases h; exact ⟨u, hy, aeA hi⟩
          · cases h
        · cases h
      · cases h
    · cases h
  · cases h
theorem amg {ρ : Env} {R C : aaM} {y : Operand} {k : IntKind} {i nt : Nat} {u : V} {a : Act} (hu : evO (R ++ C) y = some u) (hd : aap ρ u = .int k ((i : Nat) : Int)) (r : Regs nt a (dR ρ (R ++ C))) : Regs nt a (dR ρ (aso R y k i ++ C)) := by
  unfold aso
  split
  · rename_i t
    split
    · rename_i k' j' hg
      have hg' : get (R ++ C) t = some (.i k' j') := aiK hg
      have e : u = .i k' j' := by
        have : get (R ++ C) t = some u := hu
        rw [hg'] at this; exact (Option.some.inj this).symm
      refine ⟨r.size, r.defers, fun p hp => ?_⟩
      obtain ⟨q, hq, rfl⟩ := List.mem_map.1 hp
      rcases List.mem_append.1 hq with h1 | h1
      · rcases List.mem_cons.1 h1 with e1 | e1
        · subst e1
          have := r.has _ (afQ (ρ := ρ) hg')
          rw [← e, hd] at this
          exact this
        · exact r.has _ (List.mem_map.2 ⟨q, List.mem_append_left _ (aeF e1).1, rfl⟩)
      · exact r.has _ (List.mem_map.2 ⟨q, List.mem_append_right _ h1, rfl⟩)
    · exact r
  · exact r
section
variable (K : KT)
def asS (R : aaM) (H : KT.H K) : Op → Option (KT.H K)
  | .indexAddr _ x _ => match evO R x with
    | some (.sl id) => match get H id with
      | some (.gap _ _ _ _) => ajL K H id
      | _ => none
    | _ => none
  | _ => none
def asr (P : Program) (R : aaM) (n : Nat) (Z H : KT.H K) (op : Op) : Option (List Gd × Nat × KT.H K × V) := match asS K R H op with
  | some H1 => evX K P R n Z H1 op
  | none => evX K P R n Z H op
end
section
variable {K : KT} {P : Program} {B : Nat} {w : World} {ρ : Env}
theorem amm {R : aaM} {H H1 : KT.H K} {op : Op} {X : List aag} (h : asS K R H op = some H1) {w : World} (s : Sat B w (dH K ρ H ++ X)) : Sat B w (dH K ρ H1 ++ X) := by
  unfold asS at h
  split at h
  · split at h
    · split at h
      · exact ahM h s
      · cases h
    · cases h
  · cases h
theorem amX {R : aaM} {n n' nt : Nat} {Z H H' : KT.H K} {F : aag} {o : Oper} {gs : List Gd} {v : V} (h : asr K P R n Z H o.op = some (gs, n', H', v)) (hg : ∀ g ∈ gs, g.P) (s : Sat B w (dS K ρ Z H F)) {a : Act} (r : Regs nt a (dR ρ R)) :
    ∃ ρ', (aat n ρ ρ' ∧ n ≤ n' ∧ dR ρ' R = dR ρ R) ∧ (ρ' = ρ ∨ ac2 Z ≤ n) ∧ (∀ w', Sat B w' (dS K ρ Z H F) → Sat B w' (dS K ρ' Z H' F)) ∧ ∀ w', (execOp a.eval o).run P w' = .ok (.value (aap ρ' v)) w' := by
  unfold asr at h
  split at h
  · rename_i H1 h1
    obtain ⟨ρ', q1, q2, q3, q4⟩ := apq h hg (amm h1 s) r
    exact ⟨ρ', q1, q2, fun w' s' => q3 w' (amm h1 s'), q4⟩
  · exact apq h hg s r
end
abbrev agt (K : KT) := (α : Type) → FuncId → List V → Nat → KT.H K → KT.H K → (Nat → KT.H K → V → Option α) → Option α
def ags (K : KT) (P : Program) (B : Nat) (W : World) (call : agt K) : Prop :=
  ∀ (α : Type) fid vs n Z H (k : Nat → KT.H K → V → Option α) out, call α fid vs n Z H k = some out → aeq vs ≤ n → ac2 Z ≤ n → ac2 H ≤ n → ∀ F ρ w, Cls B W (dS K ρ Z H F) w →
    aeo P fid (aak ρ vs).toArray w fun e w' => ∃ x : Nx K, (aat n ρ x.ρ ∧ n ≤ x.n ∧ k x.n x.H x.v = some out) ∧ e = .returned (aap x.ρ x.v) ∧ Cls B W (dS K x.ρ Z x.H F) w'
section
variable (K : KT) (P : Program) (call : agt K) {α : Type}
def stp (o : Oper) (R : aaM) (n : Nat) (Z H : KT.H K) (k : Nat → KT.H K → V → Option α) : Option α :=
  match asr K P R n Z H o.op with
  | some (gs, n', H', v) => gds gs (k n' H' v)
  | none => match o.op with
    | .load T x => match evO R x with
      | some u => match ldV K P (H ++ Z) T u with
        | some v => k n H v
        | none => match amq K H u with
          | some H1 => match ast K P R n Z H1 T u with
            | some (n', H', v) => k n' H' v
            | none => none
          | none => match ast K P R n Z H T u with
            | some (n', H', v) => k n' H' v
            | none => match aqA K P R n Z H T u with
              | some (n', H', v) => k n' H' v
              | none => none
      | none => none
    | .store T x y => match evO R x with
      | some u => match evO R y with
        | some v => match ass K P H T u v with
          | some H' => k n H' (.c undef)
          | none => match aqx K P H T u v with
            | some H' => k n H' (.c undef)
            | none => match amq K H u with
              | some H1 => match ass K P H1 T u v with
                | some H' => k n H' (.c undef)
                | none => none
              | none => none
        | none => none
      | none => none
    | .alloc T => match ajV P T with
      | some vs => match aqY K R n Z H vs with
        | some (n', H', v) => k n' H' v
        | none => none
      | none => none
    | .indexAddr T x y => match aq2 P R T x y with
      | some (q, (len, j, sz), _) => ajE j (fun i => k n H (.ptr q.1 (q.2 + i * sz))) len
      | none => match atd P R T x y with
        | some (q, (len, j, sz), kb) => gds [⟨j < kb, inferInstance⟩] (ajE j (fun i => k n H (.ptr q.1 (q.2 + i * sz))) len)
        | none => match aq1 K P R (H ++ Z) T x y with
          | some (q, (len, j, sz), _) => ajE j (fun i => k n H (.ptr q.1 (q.2 + i * sz))) len
          | none => none
    | .box _ x => match evO R x with
      | some u => match (aay u).all (scV H) with
        | true => match aqY K R n Z H (aay u) with
          | some (n', H', v) => k n' H' v
          | none => none
        | false => none
      | none => none
    | .makeSlice T x y => match evO R x with
      | some u => match evO R y with
        | some v => match atc K P R n Z H T u v with
          | some (gs, n', H', r) => gds gs (k n' H' r)
          | none => match atb K P R n Z H T u v with
            | some (gs, n', H', r) => gds gs (k n' H' r)
            | none => none
        | none => none
      | none => none
    | .insert T x y z => match asu K P R n Z H (.insert T x y z) with
      | some (n', H', v) => k n' H' v
      | none => none
    | .makeMap T y => match asu K P R n Z H (.makeMap T y) with
      | some (n', H', v) => k n' H' v
      | none => none
    | .lookup T x y ok => match ok with
      | true => match ate K P R H T x y with
        | some (q, j, z) => ala j z q.2 (k n H) q.1
        | none => none
      | false => none
    | .buildSlice T m parts => match atg K P R n Z H T m parts.toList with
     | some (n', H', v) => k n' H' v
     | none => match ath K P R n Z H T m parts.toList with
      | some (n', H', v) => k n' H' v
      | none => match atj K P R n Z H T m parts.toList with
        | some (n', H', v) => k n' H' v
        | none => none
    | .call c => match c.callee with
      | .builtin .append => match c.args.toList with
        | [x, y] => match c.argTypes.toList with
          | [T, T'] => match evO R x with
            | some u => match evO R y with
              | some v => match ato K P R n Z H T T' u v with
                | some (gs, n', H', r) => gds gs (k n' H' r)
                | none => match atn K P R n Z H T T' u v with
                  | some (gs, n', H', r) => gds gs (k n' H' r)
                  | none => match atm K P R n Z H T T' u v with
                    | some (gs, n', H', r) => gds gs (k n' H' r)
                    | none => match atl K P R n Z H T T' u v with
                      | some (n', H', r) => k n' H' r
                      | none => none
              | none => none
            | none => none
          | _ => none
        | _ => none
      | .value f => match evO R f with
        | some (.fn fid caps) => match aoE R c.args.toList with
          | some vs => match akx P fid && aa9 K R n Z H && Nat.ble (aeq (vs ++ caps)) n && Nat.blt fid aew with
            | true => call α fid (vs ++ caps) n Z H k
            | false => none
          | none => none
        | some (.bd fid fst) => match aoE R c.args.toList with
          | some vs => match akx P fid && aa9 K R n Z H && Nat.ble (aeq (fst ++ vs)) n && Nat.blt fid aew with
            | true => call α fid (fst ++ vs) n Z H k
            | false => none
          | none => none
        | _ => none
      | .invoke x name => match mI name with
        | some i => match evO R x with
          | some (.mc id) => match aoE R c.args.toList with
            | some vs => match aa9 K R n Z H && Nat.ble (aeq (.mc id :: vs)) n with
              | true => call α (aew + i) (.mc id :: vs) n Z H k
              | false => none
            | none => none
          | some (.ifc T u) => match aqd P T name with
            | some f => match aoE R c.args.toList with
              | some vs => match akx P f && aa9 K R n Z H && Nat.ble (aeq (u :: vs)) n && Nat.blt f aew with
                | true => call α f (u :: vs) n Z H k
                | false => none
              | none => none
            | none => none
          | _ => none
        | none => none
      | _ => none
    | _ => none
end
section
variable {K : KT} {P : Program} {call : agt K} {α : Type} {nt n B : Nat} {W : World} {R : aaM} {Z H : KT.H K}
theorem asb {ρ : Env} (H H' : KT.H K) : dH K ρ (H ++ H') = dH K ρ H ++ dH K ρ H' := by simp [dH]
theorem akJ {o : Oper} {H1 : KT.H K} {nx : Nat → KT.H K → V → Prop} (hT : ∀ (ρ : Env) (w : World) (X : List aag), Sat B w (dH K ρ H ++ X) → Sat B w (dH K ρ H1 ++ X)) (h : aco K P nt B W o R n Z H1 nx) : aco K P nt B W o R n Z H nx :=
  fun F ρ a w s => h F ρ a w ⟨s.regs, s.below, s.lo, hT ρ w _ s.sat⟩
theorem ao9 (hc : ags K P B W call) {o : Oper} {k : Nat → KT.H K → V → Option α} {out : α} (h : stp K P call o R n Z H k = some out) : aco K P nt B W o R n Z H (fun n' H' v => k n' H' v = some out) := by
  unfold stp at h
  split at h
  · rename_i gs n' H' v he
    obtain ⟨h1, h2⟩ := afO h
    intro F ρ a w s
    obtain ⟨ρ', ⟨q1, q2, q3⟩, _, q4, q5⟩ := amX he h1 s.sat s.regs
    rw [q5 w]
    exact ⟨⟨ρ', n', H', v⟩, rfl, ⟨q1, q2, q3, h2⟩, s.below, s.lo, q4 w s.sat⟩
  · split at h
    · rename_i T x ho
      split at h
      · rename_i u hx
        split at h
        · rename_i v he
          intro F ρ a w s
          have s1 : Sat B w (dH K ρ (H ++ Z) ++ [F]) := by rw [asb, List.append_assoc]; exact s.sat
          rw [aqf ho hx he s.regs s1]
          exact ⟨⟨ρ, n, H, v⟩, rfl, ⟨aat.refl _ _, Nat.le_refl _, rfl, h⟩, s.cls⟩
        · split at h
          · rename_i hop
            split at h
            · rename_i he
              exact akJ (fun _ _ _ => aiF hop) (ai8 ho hx he h)
            · cases h
          · split at h
            · rename_i he
              exact ai8 ho hx he h
            · split at h
              · rename_i he
                exact alr ho hx he h
              · cases h
      · cases h
    · rename_i T x y ho
      split at h
      · rename_i hx
        split at h
        · rename_i hy
          split at h
          · rename_i he; exact ahU ho hx hy he h
          · split at h
            · rename_i he; exact aj0 ho hx hy he h
            · split at h
              · rename_i hop
                split at h
                · rename_i he
                  exact akJ (fun _ _ _ => aiF hop) (ahU ho hx hy he h)
                · cases h
              · cases h
        · cases h
      · cases h
    · rename_i T ho
      split at h
      · rename_i hz
        split at h
        · rename_i he; exact als ho hz he h
        · cases h
      · cases h
    · rename_i T x y ho
      split at h
      · rename_i q len j sz kk he
        obtain ⟨i, h1, h2, h3⟩ := afr h
        obtain ⟨id, o'⟩ := q
        intro F ρ a w s
        obtain ⟨d, op, ty, ps, af, g⟩ := o
        simp only at ho
        subst ho
        rw [am1 he s.regs h1 h2 w]
        exact ⟨⟨ρ, n, H, _⟩, rfl, ⟨aat.refl _ _, Nat.le_refl _, rfl, h3⟩, s.cls⟩
      · split at h
        · rename_i q len j sz kb he
          obtain ⟨hg, h⟩ := afO h
          have hb : j < kb := hg _ (List.mem_singleton.2 rfl)
          obtain ⟨i, h1, h2, h3⟩ := afr h
          obtain ⟨id, o'⟩ := q
          intro F ρ a w s
          obtain ⟨d, op, ty, ps, af, g⟩ := o
          simp only at ho
          subst ho
          rw [aqB he hb s.regs h2 w]
          exact ⟨⟨ρ, n, H, _⟩, rfl, ⟨aat.refl _ _, Nat.le_refl _, rfl, h3⟩, s.cls⟩
        · split at h
          · rename_i q len j sz kk he
            obtain ⟨i, h1, h2, h3⟩ := afr h
            obtain ⟨id, o'⟩ := q
            intro F ρ a w s
            obtain ⟨d, op, ty, ps, af, g⟩ := o
            simp only at ho
            subst ho
            rw [amZ he (ack s.sat) s.regs h1 h2 w]
            exact ⟨⟨ρ, n, H, _⟩, rfl, ⟨aat.refl _ _, Nat.le_refl _, rfl, h3⟩, s.cls⟩
          · cases h
    · rename_i T x ho
      split at h
      · rename_i hx
        split at h
        · rename_i hs
          split at h
          · rename_i he; exact anV ho hx hs he h
          · cases h
        · cases h
      · cases h
    · rename_i T x y ho
      split at h
      · rename_i hx
        split at h
        · rename_i hy
          split at h
          · rename_i he
            obtain ⟨h1, h2⟩ := afO h
            exact apC ho hx hy he h1 h2
          · split at h
            · rename_i he
              obtain ⟨h1, h2⟩ := afO h
              exact apB ho hx hy he h1 h2
            · cases h
        · cases h
      · cases h
    · rename_i T x y z ho
      split at h
      · rename_i n' H' v he
        rw [← ho] at he
        exact am0 he h
      · cases h
    · rename_i T y ho
      split at h
      · rename_i n' H' v he
        rw [← ho] at he
        exact am0 he h
      · cases h
    · rename_i T x y ok ho
      split at h
      · split at h
        · rename_i q j z he
          exact aqC ho he fun ρ => ajG h
        · cases h
      · cases h
    · rename_i T m parts ho
      split at h
      · rename_i he; exact apD ho he h
      · split at h
        · rename_i he; exact apE ho he h
        · split at h
          · rename_i he; exact apF ho he h
          · cases h
    · rename_i c ho
      split at h
      · rename_i hf
        split at h
        · rename_i x y hxs
          split at h
          · rename_i T T' hts
            split at h
            · rename_i hx
              split at h
              · rename_i hy
                split at h
                · rename_i he
                  obtain ⟨h1, h2⟩ := afO h
                  obtain ⟨callee, xs, ts⟩ := c
                  simp only at hf hxs hts
                  subst hf
                  obtain rfl : xs = #[x, y] := by apply Array.ext'; simpa using hxs
                  obtain rfl : ts = #[T, T'] := by apply Array.ext'; simpa using hts
                  exact apJ ho hx hy he h1 h2
                · split at h
                  · rename_i he
                    obtain ⟨h1, h2⟩ := afO h
                    obtain ⟨callee, xs, ts⟩ := c
                    simp only at hf hxs hts
                    subst hf
                    obtain rfl : xs = #[x, y] := by apply Array.ext'; simpa using hxs
                    obtain rfl : ts = #[T, T'] := by apply Array.ext'; simpa using hts
                    exact apI ho hx hy he h1 h2
                  · split at h
                    · rename_i he
                      obtain ⟨h1, h2⟩ := afO h
                      obtain ⟨callee, xs, ts⟩ := c
                      simp only at hf hxs hts
                      subst hf
                      obtain rfl : xs = #[x, y] := by apply Array.ext'; simpa using hxs
                      obtain rfl : ts = #[T, T'] := by apply Array.ext'; simpa using hts
                      exact apH K.nc ho hx hy he h1 h2
                    · split at h
                      · rename_i he
                        obtain ⟨callee, xs, ts⟩ := c
                        simp only at hf hxs hts
                        subst hf
                        obtain rfl : xs = #[x, y] := by apply Array.ext'; simpa using hxs
                        obtain rfl : ts = #[T, T'] := by apply Array.ext'; simpa using hts
                        exact apG ho hx hy he h
                      · cases h
              · cases h
            · cases h
          · cases h
        · cases h
      · rename_i f hf
        split at h
        · rename_i fid caps hfn
          split at h
          · rename_i vs hvs
            split at h
            · rename_i hB
              intro F ρ a w s
              obtain ⟨d, op, ty, ps, af, g⟩ := o
              simp only at ho
              subst ho
              obtain ⟨callee, xs, ts⟩ := c
              simp only at hf hvs
              subst hf
              simp only [Bool.and_eq_true, aa9] at hB
              obtain ⟨⟨⟨b1, ⟨⟨b2, b3⟩, b4⟩⟩, b5⟩, b6⟩ := hB
              have ef := (aaA (ρ := ρ) hfn).eval s.regs
              have exs := (afZ (ρ := ρ) hvs).eval s.regs
              simp only [aap] at ef
              rw [ams (fst := #[]) (cap := (aak ρ caps).toArray) ef b1 exs]
              have e : (#[] ++ (aak ρ vs).toArray ++ (aak ρ caps).toArray : Array Value) = (aak ρ (vs ++ caps)).toArray := by rw [agh]; simp
              rw [e]
              show Calls P fid _ w _
              have hcm := hc _ _ _ _ _ _ _ _ h (Nat.le_of_ble_eq_true b5) (Nat.le_of_ble_eq_true b3) (Nat.le_of_ble_eq_true b4) F ρ w s.cls
              rw [ac8 b6] at hcm
              refine hcm.mono ?_
              rintro e w' ⟨x, ⟨h1, h2, h3⟩, h4, h5⟩
              exact ⟨x, h4, ⟨h1, h2, (aa1 h1 R (Nat.le_of_ble_eq_true b2)).symm, h3⟩, h5⟩
            · cases h
          · cases h
        · rename_i fid fst hfn
          split at h
          · rename_i vs hvs
            split at h
            · rename_i hB
              intro F ρ a w s
              obtain ⟨d, op, ty, ps, af, g⟩ := o
              simp only at ho
              subst ho
              obtain ⟨callee, xs, ts⟩ := c
              simp only at hf hvs
              subst hf
              simp only [Bool.and_eq_true, aa9] at hB
              obtain ⟨⟨⟨b1, ⟨⟨b2, b3⟩, b4⟩⟩, b5⟩, b6⟩ := hB
              have ef := (aaA (ρ := ρ) hfn).eval s.regs
              have exs := (afZ (ρ := ρ) hvs).eval s.regs
              simp only [aap] at ef
              rw [ams (fst := (aak ρ fst).toArray) (cap := #[]) ef b1 exs]
              have e : ((aak ρ fst).toArray ++ (aak ρ vs).toArray ++ #[] : Array Value) = (aak ρ (fst ++ vs)).toArray := by rw [agh]; simp
              rw [e]
              show Calls P fid _ w _
              have hcm := hc _ _ _ _ _ _ _ _ h (Nat.le_of_ble_eq_true b5) (Nat.le_of_ble_eq_true b3) (Nat.le_of_ble_eq_true b4) F ρ w s.cls
              rw [ac8 b6] at hcm
              refine hcm.mono ?_
              rintro e w' ⟨x, ⟨h1, h2, h3⟩, h4, h5⟩
              exact ⟨x, h4, ⟨h1, h2, (aa1 h1 R (Nat.le_of_ble_eq_true b2)).symm, h3⟩, h5⟩
            · cases h
          · cases h
        · cases h
      · rename_i x name hf
        split at h
        · rename_i i hmi
          split at h
          · rename_i id hx
            split at h
            · rename_i vs hvs
              split at h
              · rename_i hB
                intro F ρ a w s
                obtain ⟨d, op, ty, ps, af, g⟩ := o
                simp only at ho
                subst ho
                obtain ⟨callee, xs, ts⟩ := c
                simp only at hf hvs
                subst hf
                simp only [Bool.and_eq_true, aa9] at hB
                obtain ⟨⟨⟨b2, b3⟩, b4⟩, b5⟩ := hB
                have ex := (aaA (ρ := ρ) hx).eval s.regs
                have exs := (afZ (ρ := ρ) hvs).eval s.regs
                have hcm := hc _ _ _ _ _ _ _ _ h (Nat.le_of_ble_eq_true b5) (Nat.le_of_ble_eq_true b3) (Nat.le_of_ble_eq_true b4) F ρ w s.cls
                rw [akw] at hcm
                obtain ⟨T, u, rest, f, e, hrun, hcall⟩ := hcm
                have e' : aap ρ (.mc id) :: aak ρ vs = .iface T u :: rest.toList := by
                  have := congrArg Array.toList e
                  simpa [aak] using this
                simp only [List.cons.injEq] at e'
                obtain ⟨e1, e2⟩ := e'
                have e3 : rest = (aak ρ vs).toArray := by apply Array.ext'; rw [← e2]
                subst e3
                rw [e1] at ex
                rw [ajw ex exs (by rw [← asX hmi]; exact hrun w)]
                show Calls P f _ w _
                refine hcall.mono ?_
                rintro e w' ⟨x, ⟨h1, h2, h3⟩, h4, h5⟩
                exact ⟨x, h4, ⟨h1, h2, (aa1 h1 R (Nat.le_of_ble_eq_true b2)).symm, h3⟩, h5⟩
              · cases h
            · cases h
          · rename_i T u hx
            split at h
            · rename_i f hml
              split at h
              · rename_i vs hvs
                split at h
                · rename_i hB
                  intro F ρ a w s
                  obtain ⟨d, op, ty, ps, af, g⟩ := o
                  simp only at ho
                  subst ho
                  obtain ⟨callee, xs, ts⟩ := c
                  simp only at hf hvs
                  subst hf
                  simp only [Bool.and_eq_true, aa9] at hB
                  obtain ⟨⟨⟨b1, ⟨⟨b2, b3⟩, b4⟩⟩, b5⟩, b6⟩ := hB
                  have ex := (aaA (ρ := ρ) hx).eval s.regs
                  have exs := (afZ (ρ := ρ) hvs).eval s.regs
                  simp only [aap] at ex
                  rw [ajw ex exs (aop hml b1 _ _ _)]
                  have e : (#[aap ρ u] ++ (aak ρ vs).toArray : Array Value) = (aak ρ (u :: vs)).toArray := by simp [aak]
                  rw [e]
                  show Calls P f _ w _
                  have hcm := hc _ _ _ _ _ _ _ _ h (Nat.le_of_ble_eq_true b5) (Nat.le_of_ble_eq_true b3) (Nat.le_of_ble_eq_true b4) F ρ w s.cls
                  rw [ac8 b6] at hcm
                  refine hcm.mono ?_
                  rintro e w' ⟨x, ⟨h1, h2, h3⟩, h4, h5⟩
                  exact ⟨x, h4, ⟨h1, h2, (aa1 h1 R (Nat.le_of_ble_eq_true b2)).symm, h3⟩, h5⟩
                · cases h
              · cases h
            · cases h
          · cases h
        · cases h
      · cases h
    · cases h
end
inductive Gs where
  | yes
  | no
  | p (d : Nat) (c : Bool) (P : Prop) (dec : Decidable P)
  | b (d : Nat) (c : Bool) (x : Bool)
def atv : Bool → Bool → Bool
  | true, true => true
  | false, false => true
  | _, _ => false
theorem aky {x y : Bool} : (x == y) = atv x y := by cases x <;> cases y <;> rfl
def as0 : Value → Bool
  | .tuple cs => Nat.beq cs.size 0
  | _ => false
theorem aqj {v : Value} (h : as0 v = true) : v = undef := by
  unfold as0 at h
  split at h
  · rename_i cs
    have := Nat.eq_of_beq_eq_true h
    obtain rfl := Array.eq_empty_of_size_eq_zero this
    rfl
  · cases h
def gst (ops : Array Oper) (R : aaM) : Option (Nat × Bool) → Option Gs
  | none => some .yes
  | some (j, c) => match ops[j]? with
    | some oj => match oj.dst with
      | some d => match get R d with
        | some (.t x) => match atv x c with
          | true => some .yes
          | false => some .no
        | some (.p P dec) => some (.p d c P dec)
        | some (.b x) => some (.b d c x)
        | some (.c v) => match as0 v with
          | true => some .no
          | false => none
        | _ => none
      | none => none
    | none => none
theorem aqm {ops : Array Oper} {R : aaM} {ρ : Env} {g : Option (Nat × Bool)} (h : gst ops R g = some .yes) : afg ops (dR ρ R) g true := by
  unfold gst at h
  split at h
  · exact alq
  · split at h
    · rename_i hj
      split at h
      · rename_i hd
        split at h
        · rename_i x hg
          split at h
          · rename_i hb
            exact agv hj hd (afQ hg) (by rw [aky]; exact hb)
          · cases h
        · cases h
        · cases h
        · split at h <;> cases h
        · cases h
      · cases h
    · cases h
theorem ar3 {ops : Array Oper} {R : aaM} {ρ : Env} {g : Option (Nat × Bool)} (h : gst ops R g = some .no) : afg ops (dR ρ R) g false := by
  unfold gst at h
  split at h
  · cases h
  · split at h
    · rename_i hj
      split at h
      · rename_i hd
        split at h
        · rename_i x hg
          split at h
          · cases h
          · rename_i hb
            exact agv hj hd (afQ hg) (by rw [aky]; exact hb)
        · cases h
        · cases h
        · rename_i hg
          split at h
          · rename_i hu
            refine ajW hj hd ?_
            have := afQ (ρ := ρ) hg
            simp only [aap] at this
            rw [aqj hu] at this
            exact this
          · cases h
        · cases h
      · cases h
    · cases h
def anK (R : aaM) (d : Nat) (x : Bool) : aaM := (d, .t x) :: del R d
theorem aj1 {ρ : Env} {R : aaM} {d nt : Nat} {v : V} {x : Bool} {a : Act} (hg : get R d = some v) (hv : aap ρ v = .bool x) (r : Regs nt a (dR ρ R)) : Regs nt a (dR ρ (anK R d x)) :=
  ⟨r.size, r.defers, fun p hp => by
    obtain ⟨q, hq, rfl⟩ := List.mem_map.1 hp
    rcases List.mem_cons.1 hq with e | e
    · subst e
      have := r.has _ (afQ (ρ := ρ) hg)
      rw [hv] at this
      exact this
    · exact r.has _ (List.mem_map.2 ⟨q, (aeF e).1, rfl⟩)⟩
theorem as4 {ops : Array Oper} {R : aaM} {g : Option (Nat × Bool)} {d : Nat} {c : Bool} {P : Prop} {dec : Decidable P} (h : gst ops R g = some (.p d c P dec)) : get R d = some (.p P dec) ∧ ∃ j oj, g = some (j, c) ∧ ops[j]? = some oj ∧ oj.dst = some d := by
  unfold gst at h
  split at h
  · cases h
  · split at h
    · rename_i hj
      split at h
      · rename_i hd
        split at h
        · split at h <;> cases h
        · rename_i hg
          cases h
          exact ⟨hg, _, _, rfl, hj, hd⟩
        · cases h
        · split at h <;> cases h
        · cases h
      · cases h
    · cases h
theorem as5 {ops : Array Oper} {R : aaM} {g : Option (Nat × Bool)} {d : Nat} {c x : Bool} (h : gst ops R g = some (.b d c x)) : get R d = some (.b x) ∧ ∃ j oj, g = some (j, c) ∧ ops[j]? = some oj ∧ oj.dst = some d := by
  unfold gst at h
  split at h
  · cases h
  · split at h
    · rename_i hj
      split at h
      · rename_i hd
        split at h
        · split at h <;> cases h
        · cases h
        · rename_i hg
          cases h
          exact ⟨hg, _, _, rfl, hj, hd⟩
        · split at h <;> cases h
        · cases h
      · cases h
    · cases h
theorem ac1 {ops : Array Oper} {R : aaM} {ρ : Env} {j d : Nat} {c x : Bool} {oj : Oper} (hj : ops[j]? = some oj) (hd : oj.dst = some d) : afg ops (dR ρ (anK R d x)) (some (j, c)) (atv x c) :=
  agv hj hd (List.mem_cons_self ..) aky
def byG {α : Type} (ops : Array Oper) (R : aaM) (g : Option (Nat × Bool)) (yes no : aaM → Option α) : Option α :=
  match gst ops R g with
  | some .yes => yes R
  | some .no => no R
  | some (.p d c P dec) => match c with
    | true => @ite _ P dec (yes (anK R d true)) (no (anK R d false))
    | false => @ite _ P dec (no (anK R d true)) (yes (anK R d false))
  | some (.b d c x) => match c with
    | true => if x = true then yes (anK R d true) else no (anK R d false)
    | false => if x = true then no (anK R d true) else yes (anK R d false)
  | none => none
theorem asf {α : Type} {ops : Array Oper} {R : aaM} {g : Option (Nat × Bool)} {yes no : aaM → Option α} {out : α} (h : byG ops R g yes no = some out) {ρ : Env} {nt : Nat} {a : Act} (r : Regs nt a (dR ρ R)) :
    ∃ R', Regs nt a (dR ρ R') ∧ ((afg ops (dR ρ R') g true ∧ yes R' = some out) ∨ (afg ops (dR ρ R') g false ∧ no R' = some out)) := by
  unfold byG at h
  split at h
  · rename_i hg; exact ⟨R, r, .inl ⟨aqm hg, h⟩⟩
  · rename_i hg; exact ⟨R, r, .inr ⟨ar3 hg, h⟩⟩
  · rename_i d c P dec hg
    obtain ⟨h1, j, oj, rfl, hj, hd⟩ := as4 hg
    by_cases hp : P
    · have r' := aj1 (x := true) h1 (by simp [aap, hp]) r
      refine ⟨_, r', ?_⟩
      cases c with
      | true => simp only [if_pos hp] at h; exact .inl ⟨ac1 hj hd, h⟩
      | false => simp only [if_pos hp] at h; exact .inr ⟨ac1 hj hd, h⟩
    · have r' := aj1 (x := false) h1 (by simp [aap, hp]) r
      refine ⟨_, r', ?_⟩
      cases c with
      | true => simp only [if_neg hp] at h; exact .inr ⟨ac1 hj hd, h⟩
      | false => simp only [if_neg hp] at h; exact .inl ⟨ac1 hj hd, h⟩
  · rename_i d c x hg
    obtain ⟨h1, j, oj, rfl, hj, hd⟩ := as5 hg
    have r' := aj1 (x := x) h1 rfl r
    cases x <;> cases c <;> simp only [Bool.false_eq_true, if_false, if_true] at h
    · exact ⟨_, r', .inl ⟨ac1 hj hd, h⟩⟩
    · exact ⟨_, r', .inr ⟨ac1 hj hd, h⟩⟩
    · exact ⟨_, r', .inr ⟨ac1 hj hd, h⟩⟩
    · exact ⟨_, r', .inl ⟨ac1 hj hd, h⟩⟩
  · cases h
end Go.Proofs.Ytkmkhldmflebkaa
