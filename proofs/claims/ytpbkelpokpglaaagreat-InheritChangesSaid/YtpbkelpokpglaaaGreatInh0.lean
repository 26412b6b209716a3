/- Plain law: levels and waiting tasks (layer 30): what both texts compute, and why the walk along the waits ends alike. No program occurs here. -/
import Derived.Test.YtpbkelpokpglaaaGreatBase
set_option linter.all false
namespace Go.Proofs.YtpbkelpokpglaaaGreat
structure Wt where
  child : Int
  worker : Int
  settled : Bool
  level : Int
structure Inh where
  lv : List Int
  fin : List Bool
  ws : List (Option Wt)
def inh0 (n : Nat) : Inh := ⟨List.replicate n (-1), List.replicate n false, List.replicate n none⟩
def settleW (e : Ev) (o : Option Wt) : Option Wt :=
  match o with
  | some x => if !x.settled && decide (x.worker = e.worker) then some { x with settled := true, level := e.level } else some x
  | none => none
/-- The state behind an event. -/
def applyI (s : Inh) (e : Ev) : Inh :=
  if e.task < 0 ∨ (s.lv.length : Int) ≤ e.task then s
  else if e.kind = 1 ∨ e.kind = 3 ∨ e.kind = 11 ∨ e.kind = 12 then { s with lv := s.lv.set e.task.toNat e.level }
  else if e.kind = 6 then { s with ws := s.ws.set e.task.toNat (some ⟨e.other, e.worker, false, 0⟩) }
  else if e.kind = 7 then { s with ws := s.ws.set e.task.toNat (settleW e (s.ws.getD e.task.toNat none)) }
  else if e.kind = 9 then { s with ws := s.ws.set e.task.toNat none }
  else if e.kind = 10 then { s with fin := s.fin.set e.task.toNat true }
  else s
/-- Whether an event raises as it should. -/
def raisesI (s : Inh) (e : Ev) : Bool :=
  if e.task < 0 ∨ (s.lv.length : Int) ≤ e.task then true
  else if e.kind = 11 ∨ e.kind = 12 then !(s.lv.getD e.task.toNat 0 == -1) && decide (s.lv.getD e.task.toNat 0 < e.level) else true
structure Inh.Wf (s : Inh) (n : Nat) : Prop where
  lv : s.lv.length = n
  fin : s.fin.length = n
  ws : s.ws.length = n
theorem inh0_wf (n : Nat) : (inh0 n).Wf n := ⟨by simp [inh0], by simp [inh0], by simp [inh0]⟩
def playI (n : Nat) (l : List Ev) : Inh := l.foldl applyI (inh0 n)
theorem playI_take {n : Nat} {l : List Ev} {k : Nat} (hk : k < l.length) : playI n (l.take (k + 1)) = applyI (playI n (l.take k)) l[k] := by
  unfold playI
  rw [List.take_succ_eq_append_getElem hk, List.foldl_append]; rfl
/-! ### floors -/
/-- A floor becomes at least p at x. -/
def upF (F : List (Option Int)) (x : Nat) (p : Int) : List (Option Int) :=
  match F.getD x none with
  | none => F.set x (some p)
  | some v => if v < p then F.set x (some p) else F
/-- m places of the walk along the waits from x on. -/
def chainF (ws : List (Option Wt)) (p : Int) : Nat → Int → List (Option Int) → List (Option Int)
  | 0, _, F => F
  | m + 1, x, F =>
    if x < 0 ∨ (ws.length : Int) ≤ x then F
    else match ws.getD x.toNat none with
      | some y => if y.settled then chainF ws p m y.child (upF F x.toNat p) else upF F x.toNat p
      | none => upF F x.toNat p
/-- The floors that the tasks below t give, each by walks of m places. -/
def floorsTo (ws : List (Option Wt)) (m : Nat) : Nat → List (Option Int)
  | 0 => List.replicate ws.length none
  | t + 1 => match ws.getD t none with
    | some y => if y.settled then chainF ws y.level m y.child (floorsTo ws m t) else floorsTo ws m t
    | none => floorsTo ws m t
def floorsI (s : Inh) : List (Option Int) := floorsTo s.ws s.ws.length s.ws.length
theorem upF_length (F : List (Option Int)) (x : Nat) (p : Int) : (upF F x p).length = F.length := by
  unfold upF; split
  · simp
  · split <;> simp
theorem chainF_length (ws : List (Option Wt)) (p : Int) : ∀ (m : Nat) (x : Int) (F : List (Option Int)), (chainF ws p m x F).length = F.length
  | 0, _, _ => rfl
  | m + 1, x, F => by
    unfold chainF
    split
    · rfl
    · split
      · split
        · rw [chainF_length ws p m, upF_length]
        · rw [upF_length]
      · rw [upF_length]
theorem floorsTo_length (ws : List (Option Wt)) (m : Nat) : ∀ t, (floorsTo ws m t).length = ws.length
  | 0 => by simp [floorsTo]
  | t + 1 => by
    unfold floorsTo
    split
    · split
      · rw [chainF_length, floorsTo_length ws m t]
      · exact floorsTo_length ws m t
    · exact floorsTo_length ws m t
/-- At x the floor is p or more. -/
def AtLeast (F : List (Option Int)) (x : Nat) (p : Int) : Prop := ∃ v, F.getD x none = some v ∧ p ≤ v
theorem upF_same {F : List (Option Int)} {x : Nat} {p : Int} (h : AtLeast F x p) : upF F x p = F := by
  obtain ⟨v, hv, hp⟩ := h
  unfold upF
  rw [hv]
  simp only
  rw [if_neg (by omega)]
theorem upF_atLeast {F : List (Option Int)} {x : Nat} {p : Int} (hx : x < F.length) : AtLeast (upF F x p) x p := by
  unfold upF AtLeast
  split
  · exact ⟨p, by simp [List.getD, hx], by omega⟩
  · rename_i v hv
    split
    · exact ⟨p, by simp [List.getD, hx], by omega⟩
    · exact ⟨v, hv, by omega⟩
theorem upF_keeps {F : List (Option Int)} {x y : Nat} {p : Int} (h : AtLeast F y p) : AtLeast (upF F x p) y p := by
  by_cases e : x = y
  · subst e; rw [upF_same h]; exact h
  · obtain ⟨v, hv, hp⟩ := h
    have hs : ∀ u, (F.set x u).getD y none = F.getD y none := fun u => by
      simp only [List.getD, List.getElem?_set, e, if_false]
    unfold upF AtLeast
    split
    · exact ⟨v, by rw [hs]; exact hv, hp⟩
    · split
      · exact ⟨v, by rw [hs]; exact hv, hp⟩
      · exact ⟨v, hv, hp⟩
/-- The place behind x on a walk. -/
def nextW (ws : List (Option Wt)) (x : Nat) : Option Int :=
  match ws.getD x none with
  | some y => if y.settled then some y.child else none
  | none => none
theorem chainF_step (ws : List (Option Wt)) (p : Int) (m : Nat) (x : Int) (F : List (Option Int)) (h0 : 0 ≤ x) (h1 : x < ws.length) :
    chainF ws p (m + 1) x F = match nextW ws x.toNat with | some y => chainF ws p m y (upF F x.toNat p) | none => upF F x.toNat p := by
  conv => lhs; unfold chainF
  unfold nextW
  rw [if_neg (by omega)]
  cases ws.getD x.toNat none with
  | none => rfl
  | some y => cases hy : y.settled <;> simp [hy]
theorem chainF_out (ws : List (Option Wt)) (p : Int) (m : Nat) (x : Int) (F : List (Option Int)) (h : x < 0 ∨ (ws.length : Int) ≤ x) : chainF ws p m x F = F := by
  cases m with
  | zero => rfl
  | succ m => unfold chainF; rw [if_pos h]
/-- A walk among places whose floors are high enough, and that it does not leave, changes nothing. -/
theorem chainF_closed (ws : List (Option Wt)) (p : Int) (V : Nat → Prop) (F : List (Option Int)) (hV : ∀ v, V v → AtLeast F v p) (hn : ∀ v y, V v → nextW ws v = some y → y < 0 ∨ (ws.length : Int) ≤ y ∨ V y.toNat) :
    ∀ (m : Nat) (x : Int), V x.toNat → chainF ws p m x F = F
  | 0, _, _ => rfl
  | m + 1, x, hx => by
    by_cases hr : 0 ≤ x ∧ x < ws.length
    · rw [chainF_step ws p m x F hr.1 hr.2, upF_same (hV _ hx)]
      cases hy : nextW ws x.toNat with
      | none => rfl
      | some y =>
        simp only
        rcases hn _ _ hx hy with h | h | h
        · exact chainF_out ws p m y F (.inl h)
        · exact chainF_out ws p m y F (.inr h)
        · exact chainF_closed ws p V F hV hn m y h
    · exact chainF_out ws p _ x F (by omega)
/-- n different places below n are all places below n. -/
theorem nodup_len : ∀ (n : Nat) (V : List Nat), V.Nodup → (∀ v ∈ V, v < n) → V.length ≤ n
  | 0, V, _, hb => by
    cases V with
    | nil => simp
    | cons v V => exact absurd (hb v (by simp)) (by omega)
  | n + 1, V, hd, hb => by
    by_cases hn : n ∈ V
    · have h1 := nodup_len n (V.erase n) (hd.erase n) (fun v hv => by
        have h2 := (hd.mem_erase_iff).1 hv
        have h3 := hb v h2.2
        have h4 := h2.1
        omega)
      rw [List.length_erase_of_mem hn] at h1
      omega
    · have := nodup_len n V hd (fun v hv => by
        have h3 := hb v hv
        have h4 : v ≠ n := fun e => hn (e ▸ hv)
        omega)
      omega
theorem all_mem {n : Nat} {V : List Nat} (hd : V.Nodup) (hb : ∀ v ∈ V, v < n) (hl : n ≤ V.length) {x : Nat} (hx : x < n) : x ∈ V := by
  by_cases h : x ∈ V
  · exact h
  · have h3 := nodup_len n (x :: V) (List.nodup_cons.2 ⟨h, hd⟩) (fun v hv => by
      rcases List.mem_cons.1 hv with rfl | hv
      · exact hx
      · exact hb v hv)
    simp at h3
    omega
theorem chainF_enough (ws : List (Option Wt)) (p : Int) : ∀ (m : Nat) (V : List Nat) (x : Int) (F : List (Option Int)), F.length = ws.length → V.Nodup → (∀ v ∈ V, v < ws.length) → (∀ v ∈ V, AtLeast F v p) →
    (∀ v y, v ∈ V → nextW ws v = some y → y = x ∨ y < 0 ∨ (ws.length : Int) ≤ y ∨ y.toNat ∈ V) → ws.length ≤ V.length + m → chainF ws p (m + 1) x F = chainF ws p m x F := by
  intro m
  induction m with
  | zero =>
    intro V x F hF hd hb ha _ hl
    by_cases hr : 0 ≤ x ∧ x < ws.length
    · have hx : x.toNat ∈ V := all_mem hd hb (by omega) (by omega)
      rw [chainF_step ws p 0 x F hr.1 hr.2, upF_same (ha _ hx)]
      cases nextW ws x.toNat <;> rfl
    · rw [chainF_out ws p _ x F (by omega), chainF_out ws p _ x F (by omega)]
  | succ m ih =>
    intro V x F hF hd hb ha hn hl
    by_cases hr : 0 ≤ x ∧ x < ws.length
    · by_cases hx : x.toNat ∈ V
      · have hc : ∀ k, chainF ws p k x F = F := fun k => chainF_closed ws p (· ∈ V) F ha (fun v y hv hy => by
          rcases hn v y hv hy with h | h | h | h
          · subst h; exact .inr (.inr hx)
          · exact .inl h
          · exact .inr (.inl h)
          · exact .inr (.inr h)) k x hx
        rw [hc, hc]
      · rw [chainF_step ws p (m + 1) x F hr.1 hr.2, chainF_step ws p m x F hr.1 hr.2]
        cases hy : nextW ws x.toNat with
        | none => rfl
        | some y =>
          simp only
          have hxl : x.toNat < F.length := by omega
          refine ih (x.toNat :: V) y _ (by rw [upF_length]; exact hF) (List.nodup_cons.2 ⟨hx, hd⟩) (fun v hv => ?_) (fun v hv => ?_) (fun v z hv hz => ?_) (by simp; omega)
          · rcases List.mem_cons.1 hv with rfl | hv
            · omega
            · exact hb v hv
          · rcases List.mem_cons.1 hv with rfl | hv
            · exact upF_atLeast hxl
            · exact upF_keeps (ha v hv)
          · rcases List.mem_cons.1 hv with rfl | hv
            · rw [hy] at hz; injection hz with hz; exact .inl hz.symm
            · rcases hn v z hv hz with h | h | h | h
              · exact .inr (.inr (.inr (by rw [h]; exact List.mem_cons_self)))
              · exact .inr (.inl h)
              · exact .inr (.inr (.inl h))
              · exact .inr (.inr (.inr (List.mem_cons_of_mem _ h)))
    · rw [chainF_out ws p _ x F (by omega), chainF_out ws p _ x F (by omega)]
/-- One place more than there are tasks changes nothing. -/
theorem floorsTo_more (ws : List (Option Wt)) : ∀ t, floorsTo ws (ws.length + 1) t = floorsTo ws ws.length t
  | 0 => rfl
  | t + 1 => by
    unfold floorsTo
    rw [floorsTo_more ws t]
    split
    · split
      · exact chainF_enough ws _ _ [] _ _ (floorsTo_length ws _ t) List.nodup_nil (by simp) (by simp) (by simp) (by simp)
      · rfl
    · rfl
/-- No task that is not finished is below its floor. -/
def holdsTo (s : Inh) (F : List (Option Int)) : Nat → Bool
  | 0 => true
  | t + 1 => holdsTo s F t && (s.fin.getD t false || !decide (s.lv.getD t 0 < (F.getD t none).getD (-1)))
def holdsI (s : Inh) : Bool := holdsTo s (floorsI s) s.lv.length
theorem holdsTo_bad {s : Inh} {F : List (Option Int)} : ∀ {n k : Nat}, k < n → (s.fin.getD k false || !decide (s.lv.getD k 0 < (F.getD k none).getD (-1))) = false → holdsTo s F n = false
  | n + 1, k, hk, h => by
    unfold holdsTo
    by_cases e : k = n
    · subst e; rw [h]; simp
    · rw [holdsTo_bad (by omega) h]; simp
/-- The number of the first event of the rest that is not as it should be, with the state before it; or none. -/
def checkI (s : Inh) (k : Nat) : List Ev → Option Nat
  | [] => none
  | e :: l => if raisesI s e && holdsI (applyI s e) then checkI (applyI s e) (k + 1) l else some k
/-- What Check answers for a valid configuration with n tasks. -/
def checkAll (n : Nat) (l : List Ev) : Int × Int := match checkI (inh0 n) 0 l with | some k => ((k : Int), 6) | none => ((l.length : Int), 0)
theorem checkI_drop {s : Inh} {l : List Ev} {k : Nat} (hk : k < l.length) : checkI s k (l.drop k) = if raisesI s l[k] && holdsI (applyI s l[k]) then checkI (applyI s l[k]) (k + 1) (l.drop (k + 1)) else some k := by
  rw [List.drop_eq_getElem_cons hk]; rfl
def floorsOut (s : Inh) : List Int := (floorsI s).map (·.getD (-1))
end Go.Proofs.YtpbkelpokpglaaaGreat
