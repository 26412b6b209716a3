/- Evaluation by itself, 4: what is held, by numbers; fields opened; cells read and written. No program occurs here. Evaluation by itself, 5: reading. No program occurs here. Evaluation by itself, 6: loads, stores, memory of its own. No program occurs here. -/
import Derived.Test.YtpbkelpokpglaaaGreatQe
set_option linter.all false
namespace Go.Proofs.YtpbkelpokpglaaaGreat
section
open Go Go.RowKit
inductive Fd (T : Nat → Type) (M : Type) where
  | v (x : V)
  | f (x : Fl T M)
inductive Ch (T : Nat → Type) (M : Type) where
  | cells (fs : List (Fd T M))
  | row (c : Nat) (xs : List (T c))
  | ro (c : Nat) (xs : List (T c))
  | rr (c : Nat) (xss : List (List (T c)))
  | elt (j : Nat) (i : Int) (sz : Nat)
  | arr (m sz : Nat) (vs : List V)
  | mach (m : M)
  | any (A : SProp)
  | hole (c : Nat) (xs : List (T c)) (i : Int) (o : Nat) (u : V)
section
variable (K : KT)
abbrev KT.D := Fd K.T K.M
abbrev KT.C := Ch K.T K.M
abbrev KT.H := List (Nat × Ch K.T K.M)
def fS (ρ : Env) : Fd K.T K.M → Value → SProp
  | .v x, v => pureS (v = denV ρ x)
  | .f x, v => pcS K x v
/-- Object id is element i of slice j. -/
def EltOk (ρ : Env) (id j sz : Nat) (i : Int) : Prop := (0 ≤ i ∧ i < ((ρ.s j).n : Int)) ∧ ∃ b o, (ρ.s j).a = some ⟨b, o, none⟩ ∧ ρ.p id = (b, o + i.toNat * sz)
/-- A row, and what field o of element i brings is taken out; the cell holds v. -/
def HoleS (A : Option Addr) (cap c : Nat) (xs : List (K.T c)) (i : Int) (o : Nat) (v : Value) : SProp := fun h => ∃ (x : K.T c) (vss : List (List Value)) (vs : List Value) (N : List SProp),
  (xs[i.toNat]? = some x ∧ vss[i.toNat]? = some vs ∧ vs[o]? = some v) ∧ (∀ x', (rwsS K (pcS K) c (xs.set i.toNat x') vss).Perm (fsS (pcS K) (K.vw c x') vs ++ N)) ∧ o < (K.vw c x).length ∧
  star (rowS A xs.length cap (K.sz c) vss.flatten :: (fsS (pcS K) ((K.vw c x).eraseIdx o) (vs.eraseIdx o) ++ N)) h
def denC (ρ : Env) (id : Nat) : Ch K.T K.M → SProp
  | .cells fs => exL fun vs : List Value => pts (ρ.p id).1 (ρ.p id).2 vs :: fsS (fS K ρ) fs vs
  | .row c xs => fun h => (ρ.s id).n = xs.length ∧ rwS K c xs (ρ.s id).a (ρ.s id).c h
  | .ro c xs => fun h => (ρ.s id).n = xs.length ∧ roS (encF K c) (K.sz c) (ρ.s id).a (ρ.s id).c xs h
  | .rr c xss => fun h => (ρ.s id).n = xss.length ∧ rrS (encF K c) (K.sz c) (ρ.s id).a (ρ.s id).c xss h
  | .elt j i sz => pureS (EltOk ρ id j sz i)
  | .arr m sz vs => fun h => (ρ.s id = ⟨some ⟨(ρ.p id).1, (ρ.p id).2, none⟩, m, m⟩ ∧ vs.length = m * sz ∧ m ≤ maxLen) ∧ pts (ρ.p id).1 (ρ.p id).2 (denVs ρ vs) h
  | .mach m => pcS K (.mach m) (ρ.v id)
  | .any A => A
  | .hole c xs i o u => fun h => (ρ.s id).n = xs.length ∧ HoleS K (ρ.s id).a (ρ.s id).c c xs i o (denV ρ u) h
def dH (ρ : Env) (H : KT.H K) : List SProp := H.map fun p => denC K ρ p.1 p.2
end
section
variable {T : Nat → Type} {M : Type}
def topF : Fd T M → Nat
  | .v x => topV x
  | .f _ => 0
def topFs : List (Fd T M) → Nat
  | [] => 0
  | f :: fs => Nat.max (topF f) (topFs fs)
def topC : Ch T M → Nat
  | .cells fs => topFs fs
  | .elt j _ _ => j + 1
  | .arr _ _ vs => topVs vs
  | .hole _ _ _ _ u => topV u
  | _ => 0
def topH : List (Nat × Ch T M) → Nat
  | [] => 0
  | p :: H => Nat.max (Nat.max (p.1 + 1) (topC p.2)) (topH H)
theorem max_le {a b n : Nat} (h : Nat.max a b ≤ n) : a ≤ n ∧ b ≤ n := ⟨Nat.le_trans (Nat.le_max_left ..) h, Nat.le_trans (Nat.le_max_right ..) h⟩
end
section
variable {K : KT} {ρ ρ' : Env} {n : Nat}
theorem fS_agree (h : Agree n ρ ρ') (f : Fd K.T K.M) (hn : topF f ≤ n) : fS K ρ f = fS K ρ' f := by
  cases f with
  | v x => funext v; simp only [fS, denV_agree h x hn]
  | f x => rfl
theorem fsS_agree (h : Agree n ρ ρ') : ∀ (fs : List (Fd K.T K.M)) (vs : List Value), topFs fs ≤ n → fsS (fS K ρ) fs vs = fsS (fS K ρ') fs vs
  | [], [], _ => rfl
  | f :: fs, v :: vs, hn => by
    simp only [topFs] at hn
    simp only [fsS, fS_agree h f (max_le hn).1, fsS_agree h fs vs (max_le hn).2]
  | [], _ :: _, _ => rfl
  | _ :: _, [], _ => rfl
theorem denC_agree (h : Agree n ρ ρ') {id : Nat} (hid : id < n) (c : Ch K.T K.M) (hn : topC c ≤ n) : denC K ρ id c = denC K ρ' id c := by
  cases c with
  | cells fs =>
    simp only [topC] at hn
    simp only [denC, (h id hid).1]
    congr 1
    funext vs
    rw [fsS_agree h fs vs hn]
  | row c xs => simp only [denC, (h id hid).2.1]
  | ro c xs => simp only [denC, (h id hid).2.1]
  | rr c xs => simp only [denC, (h id hid).2.1]
  | elt j i sz => simp only [topC] at hn; simp only [denC, EltOk, (h id hid).1, (h j (by omega)).2.1]
  | arr m sz vs => simp only [topC] at hn; simp only [denC, (h id hid).1, (h id hid).2.1, denVs_agree h vs hn]
  | mach m => simp only [denC, (h id hid).2.2]
  | any A => rfl
  | hole c xs i o u => simp only [topC] at hn; simp only [denC, (h id hid).2.1, denV_agree h u hn]
theorem dH_agree (h : Agree n ρ ρ') : ∀ H : KT.H K, topH H ≤ n → dH K ρ H = dH K ρ' H
  | [], _ => rfl
  | p :: H, hn => by
    simp only [topH] at hn
    have h1 := max_le (max_le hn).1
    show denC K ρ p.1 p.2 :: dH K ρ H = denC K ρ' p.1 p.2 :: dH K ρ' H
    rw [dH_agree h H (max_le hn).2, denC_agree h h1.1 _ h1.2]
theorem ent_del {id : Nat} {L : List SProp} : ∀ {H : KT.H K}, Ent (dH K ρ H ++ L) (dH K ρ (del H id) ++ L)
  | [] => Ent.refl
  | (t, c) :: H => by
    unfold del
    split
    · exact Ent.drop.trans ent_del
    · exact Ent.cons (fun _ h => h) ent_del
theorem ent_get {id : Nat} {c : Ch K.T K.M} {L : List SProp} : ∀ {H : KT.H K}, get H id = some c → Ent (dH K ρ H ++ L) (denC K ρ id c :: (dH K ρ (del H id) ++ L))
  | [], h => by cases h
  | (t, c') :: H, h => by
    unfold get at h
    unfold del
    split at h
    · rename_i e
      have e' : t = id := Nat.eq_of_beq_eq_true e
      simp only [Option.some.injEq] at h
      subst e' h
      exact Ent.cons (fun _ h => h) ent_del
    · have ih := ent_get (L := L) (H := H) h
      exact (Ent.cons (A := denC K ρ t c') (fun _ h => h) ih).trans (Ent.perm (List.Perm.swap ..))
theorem topFs_get {fs : List (Fd K.T K.M)} {i : Nat} {f : Fd K.T K.M} (h : fs[i]? = some f) : topF f ≤ topFs fs := by
  induction fs generalizing i with
  | nil => cases h
  | cons g fs ih =>
    cases i with
    | zero => simp at h; subst h; exact Nat.le_max_left ..
    | succ i => exact Nat.le_trans (ih (by simpa using h)) (Nat.le_max_right ..)
theorem topH_get {id : Nat} {c : Ch K.T K.M} : ∀ {H : KT.H K}, get H id = some c → id < topH H ∧ topC c ≤ topH H
  | [], h => by cases h
  | (t, c') :: H, h => by
    unfold get at h
    have hm := max_le (Nat.le_refl (topH ((t, c') :: H)))
    split at h
    · rename_i e
      have e' : t = id := Nat.eq_of_beq_eq_true e
      simp only [Option.some.injEq] at h
      subst e' h
      exact ⟨(max_le hm.1).1, (max_le hm.1).2⟩
    · have := topH_get h
      exact ⟨Nat.lt_of_lt_of_le this.1 hm.2, Nat.le_trans this.2 hm.2⟩
theorem topH_del {id : Nat} : ∀ {H : KT.H K}, topH (del H id) ≤ topH H
  | [] => Nat.le_refl _
  | (t, c) :: H => by
    unfold del
    split
    · exact Nat.le_trans topH_del (Nat.le_max_right ..)
    · exact Nat.max_le.2 ⟨Nat.le_max_left .., Nat.le_trans topH_del (Nat.le_max_right ..)⟩
/-! ### One cell of a list of cells -/
theorem fsS_turn {F : Type} {pc : F → Value → SProp} : ∀ {fs : List F} {vs : List Value} {i : Nat} {f : F} {v : Value}, fs[i]? = some f → vs[i]? = some v →
    (fsS pc fs vs).Perm (pc f v :: fsS pc (fs.eraseIdx i) (vs.eraseIdx i)) ∧ ∀ f' v', (fsS pc (fs.set i f') (vs.set i v')).Perm (pc f' v' :: fsS pc (fs.eraseIdx i) (vs.eraseIdx i))
  | [], _, _, _, _, h, _ => by cases h
  | _ :: _, [], _, _, _, _, h => by cases h
  | g :: fs, u :: vs, 0, f, v, h, h' => by
    simp at h h'; subst h h'
    exact ⟨.refl _, fun _ _ => .refl _⟩
  | g :: fs, u :: vs, i + 1, f, v, h, h' => by
    obtain ⟨h1, h2⟩ := fsS_turn (pc := pc) (fs := fs) (vs := vs) (i := i) (by simpa using h) (by simpa using h')
    exact ⟨(h1.cons _).trans (.swap ..), fun f' v' => ((h2 f' v').cons _).trans (.swap ..)⟩
theorem topFs_erase {K : KT} : ∀ {fs : List (Fd K.T K.M)} {i : Nat}, topFs (fs.eraseIdx i) ≤ topFs fs
  | [], _ => Nat.le_refl _
  | _ :: _, 0 => Nat.le_max_right ..
  | _ :: _, _ + 1 => Nat.max_le.2 ⟨Nat.le_max_left .., Nat.le_trans topFs_erase (Nat.le_max_right ..)⟩
theorem set_self {α : Type} {l : List α} {i : Nat} {a : α} (h : l[i]? = some a) : l.set i a = l := by
  obtain ⟨hlt, rfl⟩ := List.getElem?_eq_some_iff.1 h
  simp
theorem fsS_len {F : Type} {pc : F → Value → SProp} : ∀ {fs : List F} {vs : List Value} {L : List SProp} {h : Hp}, star (fsS pc fs vs ++ L) h → fs.length = vs.length
  | [], [], _, _, _ => rfl
  | _ :: fs, _ :: vs, L, _, ⟨_, _, _, _, _, s⟩ => by simp [fsS_len s]
  | [], _ :: _, _, _, ⟨_, _, _, _, hf, _⟩ => hf.elim
  | _ :: _, [], _, _, ⟨_, _, _, _, hf, _⟩ => hf.elim
theorem sat_len {F : Type} {pc : F → Value → SProp} {fs : List F} {vs : List Value} {B : Nat} {w : World} {A : SProp} {L : List SProp} (s : Sat B w (A :: (fsS pc fs vs ++ L))) : fs.length = vs.length := by
  obtain ⟨h, _, k1, k2, _, _, _, hL⟩ := s
  exact fsS_len hL
theorem Sat.pure {B : Nat} {w : World} {p : Prop} {L : List SProp} (s : Sat B w (pureS p :: L)) : p := by
  obtain ⟨h, _, k1, k2, _, _, hA, _⟩ := s
  exact hA
/-- The cells at hand, and one of them. -/
theorem cells_at {B : Nat} {w : World} {H : KT.H K} {X : List SProp} {id o : Nat} {fs : List (Fd K.T K.M)} {f : Fd K.T K.M} (s : Sat B w (dH K ρ H ++ X)) (hg : get H id = some (.cells fs)) (hf : fs[o]? = some f) :
    ∃ vs v, vs[o]? = some v ∧ fs.length = vs.length ∧ Sat B w (pts (ρ.p id).1 (ρ.p id).2 vs :: (fsS (fS K ρ) fs vs ++ (dH K ρ (del H id) ++ X))) ∧ w.cell? ⟨(ρ.p id).1, (ρ.p id).2 + o, none⟩ = some v := by
  have s1 := s.imp (ent_get (ρ := ρ) hg)
  obtain ⟨vs, s2⟩ := sat_open s1
  have hl := sat_len s2
  have ho : o < vs.length := by rw [← hl]; exact (List.getElem?_eq_some_iff.1 hf).1
  exact ⟨vs, vs[o], List.getElem?_eq_getElem ho, hl, s2, (s2.cell (List.getElem?_eq_getElem ho)).2.1⟩
theorem sat_mid {B : Nat} {w : World} {A P : SProp} {X Y L : List SProp} (s : Sat B w (A :: (X ++ L))) (p : X.Perm (P :: Y)) : Sat B w (P :: A :: (Y ++ L)) :=
  s.perm ((List.Perm.cons _ (p.append_right L)).trans (List.Perm.swap ..))
end
/-! ### Opening -/
def Env.setP (ρ : Env) (n : Nat) (q : Nat × Nat) : Env := { ρ with p := fun i => if i = n then q else ρ.p i }
def Env.setS (ρ : Env) (n : Nat) (q : Sle) : Env := { ρ with s := fun i => if i = n then q else ρ.s i }
def Env.setV (ρ : Env) (n : Nat) (q : Value) : Env := { ρ with v := fun i => if i = n then q else ρ.v i }
theorem agree_setP (ρ : Env) (n : Nat) (q : Nat × Nat) : Agree n ρ (ρ.setP n q) := fun k hk => ⟨by simp only [Env.setP]; rw [if_neg (by omega)], rfl, rfl⟩
theorem agree_setS (ρ : Env) (n : Nat) (q : Sle) : Agree n ρ (ρ.setS n q) := fun k hk => ⟨rfl, by simp only [Env.setS]; rw [if_neg (by omega)], rfl⟩
theorem agree_setV (ρ : Env) (n : Nat) (q : Value) : Agree n ρ (ρ.setV n q) := fun k hk => ⟨rfl, rfl, by simp only [Env.setV]; rw [if_neg (by omega)]⟩
section
variable {T : Nat → Type} {M : Type}
/-- A cell's value, and what it brings with it under the number n. -/
def opF (vw : (c : Nat) → T c → List (Fl T M)) (n : Nat) : Fd T M → V × Option (Ch T M)
  | .v x => (x, none)
  | .f (.i k x) => (.i k x, none)
  | .f (.b x) => (.b x, none)
  | .f (.c u) => (conV u, none)
  | .f (.own c x) => (.ptr n 0, some (.cells ((vw c x).map .f)))
  | .f (.row c xs) => (.sl n, some (.row c xs))
  | .f (.ro c xs) => (.sl n, some (.ro c xs))
  | .f (.rr c xs) => (.sl n, some (.rr c xs))
  | .f (.mach m) => (.mc n, some (.mach m))
end
section
variable {K : KT}
theorem fsS_map (pc : Fl K.T K.M → Value → SProp) (pc' : Fd K.T K.M → Value → SProp) (h : ∀ x v, pc' (.f x) v = pc x v) : ∀ (l : List (Fl K.T K.M)) (vs : List Value), fsS pc' (l.map .f) vs = fsS pc l vs
  | [], [] => rfl
  | f :: fs, v :: vs => by simp only [List.map_cons, fsS, h, fsS_map pc pc' h fs vs]
  | [], _ :: _ => rfl
  | _ :: _, [] => rfl
theorem conV_top (u : Value) : topV (conV u) = 0 := by cases u <;> rfl
theorem opF_ok {ρ : Env} {n : Nat} {f : Fd K.T K.M} {v : Value} {k : Hp} (hn : topF f ≤ n) (h : fS K ρ f v k) :
    ∃ ρ', Agree n ρ ρ' ∧ v = denV ρ' (opF K.vw n f).1 ∧ (match (opF K.vw n f).2 with | none => True | some c => denC K ρ' n c k) := by
  cases f with
  | v x => exact ⟨ρ, Agree.refl _ _, h, trivial⟩
  | f x =>
    have h2 : pcS K x v k := h
    rw [pcS_iff] at h2
    cases x with
    | i k x => exact ⟨ρ, Agree.refl _ _, h2, trivial⟩
    | b x => exact ⟨ρ, Agree.refl _ _, h2, trivial⟩
    | c u => exact ⟨ρ, Agree.refl _ _, by rw [opF, conV_den]; exact h2, trivial⟩
    | own c x =>
      obtain ⟨q, e, ho⟩ := h2
      refine ⟨ρ.setP n q, agree_setP _ _ _, ?_, ?_⟩
      · rw [e]; simp [opF, denV, Env.setP]
      · rw [obS_iff] at ho
        obtain ⟨vs, s⟩ := ho
        refine ⟨vs, ?_⟩
        simp only [Env.setP, if_true]
        rw [fsS_map (pcS K) _ (fun x v => rfl)]
        exact s
    | row c xs =>
      obtain ⟨A, cap, e, ho⟩ := h2
      refine ⟨ρ.setS n ⟨A, xs.length, cap⟩, agree_setS _ _ _, ?_, ?_, ?_⟩
      · rw [e]; simp [opF, denV, Env.setS]
      · simp [Env.setS]
      · simpa [Env.setS] using ho
    | ro c xs =>
      obtain ⟨A, cap, e, ho⟩ := h2
      refine ⟨ρ.setS n ⟨A, xs.length, cap⟩, agree_setS _ _ _, ?_, ?_, ?_⟩
      · rw [e]; simp [opF, denV, Env.setS]
      · simp [Env.setS]
      · simpa [Env.setS] using ho
    | rr c xs =>
      obtain ⟨A, cap, e, ho⟩ := h2
      refine ⟨ρ.setS n ⟨A, xs.length, cap⟩, agree_setS _ _ _, ?_, ?_, ?_⟩
      · rw [e]; simp [opF, denV, Env.setS]
      · simp [Env.setS]
      · simpa [Env.setS] using ho
    | mach m =>
      refine ⟨ρ.setV n v, agree_setV _ _ _, ?_, ?_⟩
      · simp [opF, denV, Env.setV]
      · simp only [opF, denC, Env.setV, if_true]
        exact h
theorem opF_top {n : Nat} {f : Fd K.T K.M} (hn : topF f ≤ n) : topV (opF K.vw n f).1 ≤ n + 1 ∧ (∀ c, (opF K.vw n f).2 = some c → topC c ≤ n) := by
  cases f with
  | v x => exact ⟨Nat.le_succ_of_le hn, fun c h => by cases h⟩
  | f x =>
    cases x <;> refine ⟨?_, fun c h => ?_⟩ <;> simp only [opF, topV, conV_top] at * <;> first | omega | (cases h; done) | (cases h; simp only [topC]) <;> try omega
    · rename_i c x
      have : ∀ l : List (Fl K.T K.M), topFs (l.map (Fd.f : Fl K.T K.M → Fd K.T K.M)) = 0 := fun l => by
        induction l with
        | nil => rfl
        | cons y l ih => simp only [List.map_cons, topFs, ih, topF]; rfl
      rw [this]; omega
end
end
section
open Go Go.RowKit
/-- An operation from a state: what follows is one of these. -/
structure Nx (K : KT) where
  ρ : Env
  n : Nat
  H : KT.H K
  v : V
/-- What is set aside, and what nobody here knows of. -/
def tl (K : KT) (Z : KT.H K) (F : SProp) (ρ : Env) : List SProp := dH K ρ Z ++ [F]
theorem tl_agree {K : KT} {Z : KT.H K} {F : SProp} {n : Nat} (h : topH Z ≤ n) {ρ ρ' : Env} (ha : Agree n ρ ρ') : tl K Z F ρ = tl K Z F ρ' := by unfold tl; rw [dH_agree ha Z h]
abbrev dS (K : KT) (ρ : Env) (Z H : KT.H K) (F : SProp) : List SProp := dH K ρ H ++ tl K Z F ρ
def StepOk (K : KT) (P : Program) (nt B : Nat) (W : World) (o : Oper) (R : RegL) (n : Nat) (Z H : KT.H K) (nx : Nat → KT.H K → V → Prop) : Prop :=
  ∀ F ρ a w, Sta nt B W (dR ρ R) (dS K ρ Z H F) a w → turnUpon P (fun (x : Nx K) w' => (Agree n ρ x.ρ ∧ n ≤ x.n ∧ dR x.ρ R = dR ρ R ∧ nx x.n x.H x.v) ∧ Cls B W (dS K x.ρ Z x.H F) w') (fun x => denV x.ρ x.v) ((execOp a.eval o).run P w)
section
variable {K : KT} {r : Option Nat} {P : Program} {ops : Array Oper} {Q : Exit → Act → World → Prop} {nt n B : Nat} {W : World} {R : RegL} {Z H : KT.H K} {ρ : Env} {o : Oper} {rest : List Oper} {nx : Nat → KT.H K → V → Prop} {F : SProp}
theorem rt_step (h : StepOk K P nt B W o R n Z H nx) (hd : putB nt o.dst = true) (hg : Wants ops (dR ρ R) o.guard true) (k : ∀ ρ' n' H' v, Agree n ρ ρ' → n ≤ n' → nx n' H' v → RT r P ops Q nt B W rest (dR ρ' (putR R o.dst v)) (dS K ρ' Z H' F)) : RT r P ops Q nt B W (o :: rest) (dR ρ R) (dS K ρ Z H F) := fun a w s => by
  unfold wpListIn
  rw [if_pos (hg.spec s.regs)]
  refine wpIn_turn (h F ρ a w s) fun x w' ⟨⟨ha, hn, hR, hx⟩, hw'⟩ => ?_
  have s1 : Regs nt a (dR x.ρ R) := hR ▸ s.regs
  exact k x.ρ x.n x.H x.v ha hn hx _ _ (hw'.st (putR_put hd a s1))
/-- How long a slice is. -/
def lenH (H : KT.H K) (id : Nat) : Option Nat := match get H id with
  | some (.row _ xs) => some xs.length
  | some (.ro _ xs) => some xs.length
  | some (.rr _ xs) => some xs.length
  | some (.hole _ xs _ _ _) => some xs.length
  | _ => none
theorem lenH_ok {H : KT.H K} {id m : Nat} (h : lenH H id = some m) {w : World} {X : List SProp} (s : Sat B w (dH K ρ H ++ X)) : (ρ.s id).n = m := by
  unfold lenH at h
  split at h
  · rename_i hg
    cases h
    obtain ⟨hh, Hh, k1, k2, a, e, ⟨h1', h2⟩, hL⟩ := s.imp (ent_get (ρ := ρ) hg)
    exact h1'
  · rename_i hg
    cases h
    obtain ⟨hh, Hh, k1, k2, a, e, ⟨h1', h2⟩, hL⟩ := s.imp (ent_get (ρ := ρ) hg)
    exact h1'
  · rename_i hg
    cases h
    obtain ⟨hh, Hh, k1, k2, a, e, ⟨h1', h2⟩, hL⟩ := s.imp (ent_get (ρ := ρ) hg)
    exact h1'
  · rename_i hg
    cases h
    obtain ⟨hh, Hh, k1, k2, a, e, ⟨h1', h2⟩, hL⟩ := s.imp (ent_get (ρ := ρ) hg)
    exact h1'
  · cases h
end
/-! ### Rows -/
def atL {α : Type} (d : α) (xs : List α) (i : Int) : α := (xs[i.toNat]?).getD d
def scF {T : Nat → Type} {M : Type} : Fl T M → Option V
  | .i k x => some (.i k x)
  | .b x => some (.b x)
  | .c u => some (conV u)
  | _ => none
section
variable {K : KT} {ρ : Env}
theorem scF_den {f : Fl K.T K.M} {v : V} (h : scF f = some v) : denV ρ v = flV f := by
  cases f <;> simp [scF] at h <;> subst h <;> first | rfl | exact conV_den ..
theorem scF_pc {f : Fl K.T K.M} {v : V} {u : Value} {k : Hp} (h : scF f = some v) (hp : pcS K f u k) : u = denV ρ v := by
  rw [pcS_iff] at hp
  cases f <;> simp [scF] at h <;> subst h <;> simp only [denV, conV_den] <;> exact hp
theorem flatten_at {vss : List (List Value)} {sz : Nat} (hl : ∀ vs ∈ vss, vs.length = sz) : ∀ {i o : Nat} {vs : List Value} {v : Value}, vss[i]? = some vs → vs[o]? = some v → vss.flatten[i * sz + o]? = some v := by
  induction vss with
  | nil => intro i o vs v h; cases h
  | cons us vss ih =>
    intro i o vs v h h'
    have h0 := hl us (List.mem_cons_self ..)
    cases i with
    | zero =>
      simp at h; subst h
      rw [List.flatten_cons, Nat.zero_mul, Nat.zero_add, List.getElem?_append_left (List.getElem?_eq_some_iff.1 h').1]; exact h'
    | succ i =>
      rw [List.flatten_cons, List.getElem?_append_right (by rw [h0, Nat.add_mul]; omega)]
      have := ih (fun vs h => hl vs (List.mem_cons_of_mem _ h)) (i := i) (by simpa using h) h'
      rw [← this]; congr 1; rw [h0, Nat.add_mul]; omega
theorem rwsS_turn {pc : Fl K.T K.M → Value → SProp} {c : Nat} : ∀ {xs : List (K.T c)} {vss : List (List Value)} {i : Nat} {x : K.T c} {vs : List Value}, xs[i]? = some x → vss[i]? = some vs →
    ∃ M, (rwsS K pc c xs vss).Perm (fsS pc (K.vw c x) vs ++ M) ∧ ∀ x' vs', (rwsS K pc c (xs.set i x') (vss.set i vs')).Perm (fsS pc (K.vw c x') vs' ++ M)
  | [], _, _, _, _, h, _ => by cases h
  | _ :: _, [], _, _, _, _, h => by cases h
  | g :: xs, u :: vss, 0, x, vs, h, h' => by
    simp at h h'; subst h h'
    exact ⟨rwsS K pc c xs vss, .refl _, fun _ _ => .refl _⟩
  | g :: xs, u :: vss, i + 1, x, vs, h, h' => by
    obtain ⟨M, h1, h2⟩ := rwsS_turn (pc := pc) (xs := xs) (vss := vss) (i := i) (by simpa using h) (by simpa using h')
    refine ⟨fsS pc (K.vw c g) u ++ M, ?_, fun x' vs' => ?_⟩
    · exact (h1.append_left _).trans (by rw [← List.append_assoc, ← List.append_assoc]; exact List.perm_append_comm.append_right _)
    · exact ((h2 x' vs').append_left _).trans (by rw [← List.append_assoc, ← List.append_assoc]; exact List.perm_append_comm.append_right _)
theorem rwsS_len {pc : Fl K.T K.M → Value → SProp} {c : Nat} : ∀ {xs : List (K.T c)} {vss : List (List Value)} {L : List SProp} {h : Hp}, star (rwsS K pc c xs vss ++ L) h → xs.length = vss.length ∧ ∀ (i : Nat) (x : K.T c) (vs : List Value), xs[i]? = some x → vss[i]? = some vs → (K.vw c x).length = vs.length
  | [], [], _, _, _ => ⟨rfl, fun _ _ _ h => by cases h⟩
  | x :: xs, vs :: vss, L, h, s => by
    have s' : star (fsS pc (K.vw c x) vs ++ (rwsS K pc c xs vss ++ L)) h := by simpa [rwsS] using s
    have h1 := fsS_len s'
    obtain ⟨k1, k2, a, e, _, s2⟩ := star_append.1 s'
    obtain ⟨h2, h3⟩ := rwsS_len s2
    refine ⟨by simp [h2], fun i y us hy hu => ?_⟩
    cases i with
    | zero => simp at hy hu; subst hy hu; exact h1
    | succ i => exact h3 i y us (by simpa using hy) (by simpa using hu)
  | [], _ :: _, _, _, ⟨_, _, _, _, hf, _⟩ => hf.elim
  | _ :: _, [], _, _, ⟨_, _, _, _, hf, _⟩ => hf.elim
theorem rwsS_sz {pc : Fl K.T K.M → Value → SProp} {c : Nat} {xs : List (K.T c)} {vss : List (List Value)} {L : List SProp} {h : Hp} (s : star (rwsS K pc c xs vss ++ L) h) : xs.length = vss.length ∧ ∀ vs ∈ vss, vs.length = K.sz c := by
  obtain ⟨h1, h2⟩ := rwsS_len s
  refine ⟨h1, fun vs hv => ?_⟩
  obtain ⟨i, hi⟩ := List.mem_iff_getElem?.1 hv
  have hlt : i < xs.length := by rw [h1]; exact (List.getElem?_eq_some_iff.1 hi).1
  rw [← h2 i _ vs (List.getElem?_eq_getElem hlt) hi, K.sz_ok]
/-- A row, opened to its cells. -/
theorem row_at {B : Nat} {w : World} {H : KT.H K} {X : List SProp} {j c : Nat} {xs : List (K.T c)} (s : Sat B w (dH K ρ H ++ X)) (hg : get H j = some (.row c xs)) :
    (ρ.s j).n = xs.length ∧ ∃ vss : List (List Value), xs.length = vss.length ∧ (∀ vs ∈ vss, vs.length = K.sz c) ∧ Sat B w (rowS (ρ.s j).a xs.length (ρ.s j).c (K.sz c) vss.flatten :: (rwsS K (pcS K) c xs vss ++ (dH K ρ (del H j) ++ X))) := by
  obtain ⟨h, Hh, k1, k2, a, e, ⟨h1', h2⟩, hL⟩ := s.imp (ent_get (ρ := ρ) hg)
  rw [rwS_iff] at h2
  obtain ⟨vss, s2⟩ := h2
  have s3 : star ((rowS (ρ.s j).a xs.length (ρ.s j).c (K.sz c) vss.flatten :: rwsS K (pcS K) c xs vss) ++ (dH K ρ (del H j) ++ X)) h := star_append.2 ⟨k1, k2, a, e, s2, hL⟩
  have h3 : xs.length = vss.length ∧ ∀ vs ∈ vss, vs.length = K.sz c := by
    obtain ⟨q1, q2, a', e', _, hq⟩ := s2
    exact rwsS_sz (L := []) (by simpa using hq)
  exact ⟨h1', vss, h3.1, h3.2, h, Hh, s3⟩
theorem elt_ok {B : Nat} {w : World} {H : KT.H K} {X : List SProp} {id j sz : Nat} {i : Int} (s : Sat B w (dH K ρ H ++ X)) (hg : get H id = some (.elt j i sz)) : EltOk ρ id j sz i := (s.imp (ent_get (ρ := ρ) hg)).pure
theorem atL_get {α : Type} {d : α} {xs : List α} {i : Int} (h : 0 ≤ i ∧ i < (xs.length : Int)) : xs[i.toNat]? = some (atL d xs i) := by
  have : i.toNat < xs.length := by omega
  simp [atL, this]
/-- A cell of an element of a row. -/
theorem row_cell {B : Nat} {w : World} {H : KT.H K} {X : List SProp} {id j c o : Nat} {i : Int} {xs : List (K.T c)} {f : Fl K.T K.M} (s : Sat B w (dH K ρ H ++ X)) (hg : get H j = some (.row c xs)) (he : EltOk ρ id j (K.sz c) i) (hf : (K.vw c (atL (K.df c) xs i))[o]? = some f) :
    ∃ v, w.cell? ⟨(ρ.p id).1, (ρ.p id).2 + o, none⟩ = some v ∧ ∃ L, Sat B w (pcS K f v :: L) ∧ Ent (pcS K f v :: L) (denC K ρ j (.row c xs) :: (dH K ρ (del H j) ++ X)) := by
  obtain ⟨h1', vss, h2, h3, s2⟩ := row_at s hg
  obtain ⟨hi, b, o', hA, hp⟩ := he
  rw [h1'] at hi
  have hx := atL_get (d := K.df c) hi
  have hlt : i.toNat < vss.length := by omega
  have hvs : vss[i.toNat]? = some vss[i.toNat] := List.getElem?_eq_getElem hlt
  have hsz := h3 _ (List.getElem_mem hlt)
  have hol : o < vss[i.toNat].length := by rw [hsz, ← K.sz_ok c (atL (K.df c) xs i)]; exact (List.getElem?_eq_some_iff.1 hf).1
  have hov : (vss[i.toNat])[o]? = some (vss[i.toNat])[o] := List.getElem?_eq_getElem hol
  have hfl := flatten_at h3 hvs hov
  obtain ⟨r1, r2, r3, r4⟩ := sat_rowS s2 (List.mem_cons_self ..)
  refine ⟨(vss[i.toNat])[o], ?_, ?_⟩
  · rcases r4 with ⟨r4, _⟩ | ⟨b2, o2, r4, r5⟩
    · rw [r4] at hA; cases hA
    · rw [r4] at hA
      cases hA
      rw [hp]
      have := r5 _ _ hfl
      rw [← Nat.add_assoc] at this
      exact this
  · obtain ⟨M, p1, _⟩ := rwsS_turn (pc := pcS K) hx hvs
    have p2 := (fsS_turn (pc := pcS K) hf hov).1
    have p3 := p1.trans (p2.append_right M)
    refine ⟨_, sat_mid s2 p3, fun k hk => ?_⟩
    have s5 : star ((rowS (ρ.s j).a xs.length (ρ.s j).c (K.sz c) vss.flatten :: rwsS K (pcS K) c xs vss) ++ (dH K ρ (del H j) ++ X)) k := by
      refine star_perm ?_ hk
      exact (List.Perm.swap ..).trans (List.Perm.cons _ (p3.symm.append_right _))
    obtain ⟨j1, j2, a'', e'', g1, g2⟩ := star_append.1 s5
    exact ⟨j1, j2, a'', e'', ⟨h1', rwS_iff.2 ⟨vss, g1⟩⟩, g2⟩
/-- A cell of an element of a list that is only read. -/
theorem ro_cell {B : Nat} {w : World} {H : KT.H K} {X : List SProp} {id j c o : Nat} {i : Int} {xs : List (K.T c)} {f : Fl K.T K.M} (s : Sat B w (dH K ρ H ++ X)) (hg : get H j = some (.ro c xs)) (he : EltOk ρ id j (K.sz c) i) (hf : (K.vw c (atL (K.df c) xs i))[o]? = some f) :
    w.cell? ⟨(ρ.p id).1, (ρ.p id).2 + o, none⟩ = some (flV f) := by
  obtain ⟨h, Hh, k1, k2, a, e, ⟨h1', h2⟩, hL⟩ := s.imp (ent_get (ρ := ρ) hg)
  have s2 : Sat B w (roS (encF K c) (K.sz c) (ρ.s j).a (ρ.s j).c xs :: (dH K ρ (del H j) ++ X)) := ⟨h, Hh, k1, k2, a, e, h2, hL⟩
  obtain ⟨hi, b, o', hA, hp⟩ := he
  rw [h1'] at hi
  have hlt : i.toNat < xs.length := by omega
  obtain ⟨b2, o2, hA2, _, hc⟩ := (ro_sl s2 (List.mem_cons_self ..)).1.at_ hlt
  rw [hA] at hA2
  cases hA2
  have hx := atL_get (d := K.df c) hi
  have he2 : xs[i.toNat] = atL (K.df c) xs i := (List.getElem?_eq_some_iff.1 hx).2
  have := hc i.toNat hlt o (flV f) (by rw [he2]; unfold encF; rw [List.getElem?_map, hf]; rfl)
  rw [hp]; exact this
end
section
variable {K : KT} {ρ : Env}
/-- What a field of an element brings is taken out of a row. -/
theorem hole_open {B : Nat} {w : World} {H : KT.H K} {X : Env → List SProp} {id j c o n : Nat} {i : Int} {xs : List (K.T c)} {f : Fl K.T K.M} {V0 : V} {ch : Ch K.T K.M} (hop : opF K.vw n (.f f) = (V0, some ch)) (hn : topH H ≤ n) (hX : ∀ ρ', Agree n ρ ρ' → X ρ = X ρ')
    (s : Sat B w (dH K ρ H ++ X ρ)) (hg : get H j = some (.row c xs)) (he : EltOk ρ id j (K.sz c) i) (hf : (K.vw c (atL (K.df c) xs i))[o]? = some f) :
    ∃ ρ', Agree n ρ ρ' ∧ Sat B w (dH K ρ' ((n, ch) :: (j, .hole c xs i o V0) :: del H j) ++ X ρ') ∧ w.cell? ⟨(ρ.p id).1, (ρ.p id).2 + o, none⟩ = some (denV ρ' V0) := by
  obtain ⟨h1', vss, h2, h3, s2⟩ := row_at s hg
  obtain ⟨hi, b, o', hA, hp⟩ := he
  rw [h1'] at hi
  have hx := atL_get (d := K.df c) hi
  have hlt : i.toNat < vss.length := by omega
  have hvs : vss[i.toNat]? = some vss[i.toNat] := List.getElem?_eq_getElem hlt
  have hsz := h3 _ (List.getElem_mem hlt)
  have hol : o < vss[i.toNat].length := by rw [hsz, ← K.sz_ok c (atL (K.df c) xs i)]; exact (List.getElem?_eq_some_iff.1 hf).1
  have hov : (vss[i.toNat])[o]? = some (vss[i.toNat])[o] := List.getElem?_eq_getElem hol
  have hfl := flatten_at h3 hvs hov
  obtain ⟨r1, r2, r3, r4⟩ := sat_rowS s2 (List.mem_cons_self ..)
  have hcell : w.cell? ⟨(ρ.p id).1, (ρ.p id).2 + o, none⟩ = some (vss[i.toNat])[o] := by
    rcases r4 with ⟨r4, _⟩ | ⟨b2, o2, r4, r5⟩
    · rw [r4] at hA; cases hA
    · rw [r4] at hA
      cases hA
      rw [hp]
      have := r5 _ _ hfl
      rw [← Nat.add_assoc] at this
      exact this
  obtain ⟨M, p1, p1'⟩ := rwsS_turn (pc := pcS K) hx hvs
  have p2 := (fsS_turn (pc := pcS K) hf hov).1
  have p3 := p1.trans (p2.append_right M)
  have s3 : Sat B w (pcS K f (vss[i.toNat])[o] :: ((rowS (ρ.s j).a xs.length (ρ.s j).c (K.sz c) vss.flatten :: (fsS (pcS K) ((K.vw c (atL (K.df c) xs i)).eraseIdx o) ((vss[i.toNat]).eraseIdx o) ++ M)) ++ (dH K ρ (del H j) ++ X ρ))) := s2.perm (by
    refine (List.Perm.cons _ (p3.append_right _)).trans ?_
    exact List.Perm.swap ..)
  obtain ⟨hh, Hh, k1, k2, a, e, hA1, hL⟩ := s3
  have hfF : fS K ρ (.f f) (vss[i.toNat])[o] k1 := hA1
  obtain ⟨ρ', ha, hv, hd⟩ := opF_ok (Nat.zero_le _) hfF
  rw [hop] at hv hd
  simp only at hv hd
  refine ⟨ρ', ha, ?_, by rw [hcell, hv]⟩
  have hgt := topH_get hg
  have hjn : j < n := Nat.lt_of_lt_of_le hgt.1 hn
  obtain ⟨q1, q2, a', e', g1, g2⟩ := star_append.1 hL
  rw [dH_agree ha (del H j) (Nat.le_trans topH_del hn), hX _ ha] at g2
  refine ⟨hh, Hh, k1, k2, a, e, hd, q1, q2, a', e', ⟨by rw [← (ha j hjn).2.1]; exact h1', ?_⟩, g2⟩
  rw [← (ha j hjn).2.1]
  refine ⟨atL (K.df c) xs i, vss, vss[i.toNat], M, ⟨hx, hvs, by rw [← hv]; exact hov⟩, fun x' => ?_, (List.getElem?_eq_some_iff.1 hf).1, g1⟩
  have := p1' x' vss[i.toNat]
  rw [set_self hvs] at this
  exact this
/-- It is put back. -/
theorem hole_close {B : Nat} {w : World} {id c o : Nat} {i : Int} {xs : List (K.T c)} {u : V} {f' : Fl K.T K.M} {x' : K.T c} {L : List SProp} (hx' : K.vw c x' = (K.vw c (atL (K.df c) xs i)).set o f')
    (s : Sat B w (denC K ρ id (.hole c xs i o u) :: pcS K f' (denV ρ u) :: L)) : Sat B w ((fun h => (ρ.s id).n = (xs.set i.toNat x').length ∧ rwS K c (xs.set i.toNat x') (ρ.s id).a (ρ.s id).c h) :: L) := by
  obtain ⟨hh, Hh, k1, k2, a, e, ⟨h1, x, vss, vs, N, ⟨hx, hvs, hov⟩, hp, ho, hst⟩, hL⟩ := s
  obtain rfl : x = atL (K.df c) xs i := by unfold atL; rw [hx]; rfl
  have s2 : star ((rowS (ρ.s id).a xs.length (ρ.s id).c (K.sz c) vss.flatten :: (fsS (pcS K) ((K.vw c (atL (K.df c) xs i)).eraseIdx o) (vs.eraseIdx o) ++ N)) ++ (pcS K f' (denV ρ u) :: L)) hh := star_append.2 ⟨k1, k2, a, e, hst, hL⟩
  have hf : (K.vw c (atL (K.df c) xs i))[o]? = some (K.vw c (atL (K.df c) xs i))[o] := List.getElem?_eq_getElem ho
  have p2 := (fsS_turn (pc := pcS K) hf hov).2 f' (denV ρ u)
  rw [set_self hov, ← hx'] at p2
  have s3 : star ((rowS (ρ.s id).a xs.length (ρ.s id).c (K.sz c) vss.flatten :: rwsS K (pcS K) c (xs.set i.toNat x') vss) ++ L) hh := by
    refine star_perm ?_ s2
    refine List.Perm.cons _ ?_
    refine List.Perm.trans ?_ (((hp x').trans (p2.append_right N)).symm.append_right L)
    simp only [List.cons_append, List.append_assoc]
    exact (List.perm_middle (l₁ := fsS (pcS K) ((K.vw c (atL (K.df c) xs i)).eraseIdx o) (vs.eraseIdx o) ++ N)).trans (by rw [List.append_assoc])
  obtain ⟨j1, j2, a'', e'', g1, g2⟩ := star_append.1 s3
  refine ⟨hh, Hh, j1, j2, a'', e'', ⟨by rw [List.length_set]; exact h1, rwS_iff.2 ⟨vss, ?_⟩⟩, g2⟩
  rw [List.length_set]; exact g1
end
/-! ### A cell is read -/
section
variable (K : KT)
/-- The value in a cell; what must be opened for it gets the number n. -/
def opn (n : Nat) (H : KT.H K) (id o : Nat) : Option (Bool × KT.H K × V) :=
  match get H id with
  | some (.cells fs) => match fs[o]? with
    | some f => match opF K.vw n f with
      | (v, none) => some (false, H, v)
      | (v, some c) => match Nat.ble (topH H) n with
        | true => some (true, (n, c) :: (id, .cells (fs.set o (.v v))) :: del H id, v)
        | false => none
    | none => none
  | some (.elt j i sz) => match get H j with
    | some (.row c xs) => match Nat.beq sz (K.sz c) with
      | true => match (K.vw c (atL (K.df c) xs i))[o]? with
        | some (.ro c' ys) => match Nat.ble (topH H) n with
          | true => some (true, (n, .ro c' ys) :: (j, .row c xs) :: del H j, .sl n)
          | false => none
        | some f => match scF f with
          | some v => some (false, H, v)
          | none => match opF K.vw n (.f f) with
            | (v, some ch) => match Nat.ble (topH H) n with
              | true => some (true, (n, ch) :: (j, .hole c xs i o v) :: del H j, v)
              | false => none
            | (_, none) => none
        | none => none
      | false => none
    | some (.ro c xs) => match Nat.beq sz (K.sz c) with
      | true => match (K.vw c (atL (K.df c) xs i))[o]? with
        | some f => (scF f).map fun v => (false, H, v)
        | none => none
      | false => none
    | some (.rr c xss) => match Nat.beq sz 1 && Nat.beq o 0 && Nat.ble (topH H) n with
      | true => some (true, (n, .ro c (atL [] xss i)) :: (j, .rr c xss) :: del H j, .sl n)
      | false => none
    | _ => none
  | _ => none
end
section
variable {K : KT}
theorem opn_ok {n : Nat} {H H' : KT.H K} {id o : Nat} {v : V} {ch : Bool} (h : opn K n H id o = some (ch, H', v)) {ρ : Env} {B : Nat} {w : World} {X : Env → List SProp} (hX : ch = true → ∀ ρ', Agree n ρ ρ' → X ρ = X ρ') (s : Sat B w (dH K ρ H ++ X ρ)) :
    ∃ ρ', (Agree n ρ ρ' ∧ (ch = false → ρ' = ρ)) ∧ Sat B w (dH K ρ' H' ++ X ρ') ∧ w.cell? ⟨(ρ.p id).1, (ρ.p id).2 + o, none⟩ = some (denV ρ' v) := by
  unfold opn at h
  split at h
  · rename_i fs hg
    split at h
    · rename_i f hf
      obtain ⟨vs, u, hu, hl, s2, hc⟩ := cells_at s hg hf
      have p1 := (fsS_turn (pc := fS K ρ) hf hu).1
      have s3 := sat_mid s2 p1
      split at h
      · rename_i v' hop
        cases h
        obtain ⟨hh, Hh, k1, k2, a, e, hA, hL⟩ := s3
        -- a value that brings nothing with it
        have key : u = denV ρ v := by
          cases f with
          | v x => cases hop; exact hA
          | f x =>
            have hp : pcS K x u k1 := hA
            cases x <;> simp only [opF, Prod.mk.injEq, reduceCtorEq, and_false, and_true] at hop <;> subst hop <;> rw [pcS_iff] at hp <;> simp only [denV, conV_den] <;> exact hp
        exact ⟨ρ, ⟨Agree.refl _ _, fun _ => rfl⟩, s, by rw [hc, key]⟩
      · rename_i v' c hop
        split at h
        · rename_i hb
          cases h
          have hn : topH H ≤ n := Nat.le_of_ble_eq_true hb
          have hgt := topH_get hg
          obtain ⟨hh, Hh, k1, k2, a, e, hA, hL⟩ := s3
          have hft : topF f ≤ n := Nat.le_trans (topFs_get hf) (Nat.le_trans hgt.2 hn)
          obtain ⟨ρ', ha, hv, hd⟩ := opF_ok hft hA
          rw [hop] at hv hd
          simp only at hv hd
          refine ⟨ρ', ⟨ha, fun e => by cases e⟩, ?_, by rw [hc, hv]⟩
          have hid : id < n := Nat.lt_of_lt_of_le hgt.1 hn
          have e0 := fsS_agree ha (fs.eraseIdx o) (vs.eraseIdx o) (Nat.le_trans topFs_erase (Nat.le_trans hgt.2 hn))
          have e1 : dH K ρ (del H id) = dH K ρ' (del H id) := dH_agree ha _ (Nat.le_trans topH_del hn)
          rw [e0, e1, (ha id hid).1, hX rfl _ ha] at hL
          have p2 := (fsS_turn (pc := fS K ρ') hf hu).2 (.v v) u
          rw [set_self hu] at p2
          refine ⟨hh, Hh, k1, k2, a, e, hd, ?_⟩
          obtain ⟨q1, q2, a', e', hp, hq⟩ := hL
          have s6 : star ((pts (ρ'.p id).1 (ρ'.p id).2 vs :: fsS (fS K ρ') (fs.set o (.v v)) vs) ++ (dH K ρ' (del H id) ++ X ρ')) k2 := by
            refine ⟨q1, q2, a', e', hp, star_perm (p2.symm.append_right _) ?_⟩
            exact (ent_pureI (L := fsS (fS K ρ') (fs.eraseIdx o) (vs.eraseIdx o) ++ (dH K ρ' (del H id) ++ X ρ')) hv) q2 hq
          obtain ⟨j1, j2, a'', e'', g1, g2⟩ := star_append.1 s6
          exact ⟨j1, j2, a'', e'', ⟨vs, g1⟩, g2⟩
        · cases h
    · cases h
  · rename_i j i sz hj0
    have he0 := elt_ok s hj0
    split at h
    · rename_i c xs hj
      split at h
      · rename_i hsz
        obtain rfl := Nat.eq_of_beq_eq_true hsz
        have he := he0
        split at h
        · rename_i c' ys hf
          split at h
          · rename_i hb
            cases h
            have hn : topH H ≤ n := Nat.le_of_ble_eq_true hb
            obtain ⟨u, hc, L, s2, back⟩ := row_cell s hj he hf
            have hgt := topH_get hj
            have hjn : j < n := Nat.lt_of_lt_of_le hgt.1 hn
            obtain ⟨hh, Hh, k1, k2, a, e, hA, hL⟩ := s2
            have hA' := hA
            rw [pcS_iff] at hA'
            obtain ⟨A, cap, hu, hro⟩ := hA'
            have s3 : Sat B w (roS (encF K c') (K.sz c') A cap ys :: L) := ⟨hh, Hh, k1, k2, a, e, hro, hL⟩
            have ha := agree_setS ρ n ⟨A, ys.length, cap⟩
            have e1 : dH K ρ (del H j) = dH K (ρ.setS n ⟨A, ys.length, cap⟩) (del H j) := dH_agree ha _ (Nat.le_trans topH_del hn)
            have e2 : denC K ρ j (.row c xs) = denC K (ρ.setS n ⟨A, ys.length, cap⟩) j (.row c xs) := denC_agree ha hjn _ (Nat.le_trans hgt.2 hn)
            refine ⟨_, ⟨ha, fun e => by cases e⟩, ?_, by rw [hc, hu]; simp [denV, Env.setS]⟩
            have s4 := s3.imp ro_dup
            refine s4.imp fun k hk => ?_
            refine star_head (fun k hk => ?_) (star_tail (fun k hk => ?_) hk)
            · exact ⟨by simp [Env.setS], by simpa [Env.setS] using hk⟩
            · have fold : ∀ q : Hp, roS (encF K c') (K.sz c') A cap ys q → pcS K (.ro c' ys) u q := fun q hq => (pcS_iff (K := K)).2 (show pcW K (obS K) (rwS K) (.ro c' ys) u q from ⟨A, cap, hu, hq⟩)
              have := back k (star_head fold hk)
              rw [e1, e2, hX rfl _ ha] at this
              exact this
          · cases h
        · rename_i f _ hf
          split at h
          · rename_i v' hv
            cases h
            obtain ⟨u, hc, L, ⟨hh, Hh, k1, k2, a, e, hA, hL⟩, _⟩ := row_cell s hj he hf
            exact ⟨ρ, ⟨Agree.refl _ _, fun _ => rfl⟩, s, by rw [hc, scF_pc hv hA]⟩
          · split at h
            · rename_i v' ch' hop
              split at h
              · rename_i hb
                cases h
                obtain ⟨ρ', ha, hs, hc⟩ := hole_open hop (Nat.le_of_ble_eq_true hb) (hX rfl) s hj he hf
                exact ⟨ρ', ⟨ha, fun e => by cases e⟩, hs, hc⟩
              · cases h
            · cases h
        · cases h
      · cases h
    · rename_i c xs hj
      split at h
      · rename_i hsz
        obtain rfl := Nat.eq_of_beq_eq_true hsz
        have he := he0
        split at h
        · rename_i f hf
          simp only [Option.map_eq_some_iff, Prod.mk.injEq] at h
          obtain ⟨v', hv, rfl, rfl, rfl⟩ := h
          exact ⟨ρ, ⟨Agree.refl _ _, fun _ => rfl⟩, s, by rw [ro_cell s hj he hf, scF_den hv]⟩
        · cases h
      · cases h
    · rename_i c xss hj
      split at h
      · rename_i hB
        cases h
        simp only [Bool.and_eq_true] at hB
        obtain ⟨⟨b1, b2⟩, b3⟩ := hB
        obtain rfl := Nat.eq_of_beq_eq_true b1
        obtain rfl := Nat.eq_of_beq_eq_true b2
        have hn : topH H ≤ n := Nat.le_of_ble_eq_true b3
        have hgt := topH_get hj
        have hjn : j < n := Nat.lt_of_lt_of_le hgt.1 hn
        obtain ⟨hi, b, o', hA, hp⟩ := he0
        obtain ⟨hh, Hh, k1, k2, a, e, ⟨h1', ps, h2⟩, hL⟩ := s.imp (ent_get (ρ := ρ) hj)
        rw [h1'] at hi
        have hx := atL_get (d := ([] : List (K.T c))) hi
        have s2 : Sat B w (lookS _ :: (dH K ρ (del H j) ++ X ρ)) := ⟨hh, Hh, k1, k2, a, e, h2, hL⟩
        obtain ⟨q, hq, _, b2, o2, hA2, _, hc⟩ := (look_sat s2 (List.mem_cons_self ..)).2 _ _ hx
        rw [hA] at hA2
        cases hA2
        have ha := agree_setS ρ n ⟨q.1, (atL [] xss i).length, q.2⟩
        have e1 : dH K ρ (del H j) = dH K (ρ.setS n ⟨q.1, (atL [] xss i).length, q.2⟩) (del H j) := dH_agree ha _ (Nat.le_trans topH_del hn)
        refine ⟨_, ⟨ha, fun e => by cases e⟩, ?_, by rw [hp, Nat.mul_one, Nat.add_zero, hc]; simp [denV, Env.setS]⟩
        have s3 := s2.imp look_dup
        refine s3.imp fun k hk => ?_
        rw [e1, hX rfl _ ha] at hk
        refine star_head (fun k hk => ?_) (star_tail (fun k hk => star_head (fun k hk => ?_) hk) hk)
        · refine ⟨by simp [Env.setS], ?_⟩
          have := look_mono (Ψ := fun u => Sl (encF K c) (K.sz c) u u.heap.size q.1 (atL [] xss i) ∧ (atL [] xss i).length ≤ q.2) (fun u hu => by
            obtain ⟨q', hq', hs, _⟩ := hu.2 _ _ hx
            rw [hq] at hq'
            cases hq'
            exact hs) k hk
          have this2 : roS (encF K c) (K.sz c) q.1 q.2 (atL [] xss i) k := this
          simpa [Env.setS] using this2
        · have hjn' : j ≠ n := by omega
          exact ⟨by simpa [Env.setS, hjn'] using h1', ps, by simpa [Env.setS, hjn'] using hk⟩
      · cases h
    · cases h
  · cases h
end
end
section
open Go Go.RowKit
section
variable (K : KT)
/-- k cells in a row are read. -/
def opnN : Nat → Nat → KT.H K → Nat → Nat → Option (Bool × KT.H K × List V)
  | 0, _, H, _, _ => some (false, H, [])
  | k + 1, n, H, id, o => match opn K n H id o with
    | some (ch, H', v) => match Nat.ble (topV v) (n + 1) with
      | true => match Nat.blt id n with
        | true => match opnN k (n + 1) H' id (o + 1) with
          | some (ch', H'', l) => some (ch || ch', H'', v :: l)
          | none => none
        | false => none
      | false => none
    | none => none
end
section
variable {K : KT}
theorem opnN_ok : ∀ {k n : Nat} {H H' : KT.H K} {id o : Nat} {l : List V} {ch : Bool} {ρ : Env} {B : Nat} {w : World} {X : Env → List SProp}, (ch = true → ∀ ρ ρ', Agree n ρ ρ' → X ρ = X ρ') → opnN K k n H id o = some (ch, H', l) → Sat B w (dH K ρ H ++ X ρ) →
    ∃ ρ', (Agree n ρ ρ' ∧ (ch = false → ρ' = ρ)) ∧ Sat B w (dH K ρ' H' ++ X ρ') ∧ l.length = k ∧ ∀ j v, (denVs ρ' l)[j]? = some v → w.cell? ⟨(ρ.p id).1, (ρ.p id).2 + o + j, none⟩ = some v
  | 0, n, H, H', id, o, l, ch, ρ, B, w, X, hX, h, s => by
    cases h
    exact ⟨ρ, ⟨Agree.refl _ _, fun _ => rfl⟩, s, rfl, fun j v hj => by simp [denVs] at hj⟩
  | k + 1, n, H, H', id, o, l, ch, ρ, B, w, X, hX, h, s => by
    unfold opnN at h
    split at h
    · rename_i ch1 H1 v h1
      split at h
      · rename_i ht
        split at h
        · rename_i hid
          split at h
          · rename_i ch2 H2 l2 h2
            cases h
            have ht' : topV v ≤ n + 1 := Nat.le_of_ble_eq_true ht
            have hid' : id < n := Nat.le_of_ble_eq_true hid
            obtain ⟨ρ1, ⟨a1, e1⟩, s1, c1⟩ := opn_ok h1 (fun hc ρ' => hX (by rw [hc]; rfl) _ ρ') s
            obtain ⟨ρ2, ⟨a2, e2⟩, s2, hl, c2⟩ := opnN_ok (fun hc ρ ρ' ha => hX (by rw [hc, Bool.or_true]) _ _ (ha.le (Nat.le_succ n))) h2 s1
            refine ⟨ρ2, ⟨a1.trans a2 (Nat.le_succ n), fun hc => ?_⟩, s2, by simp [hl], fun j u hj => ?_⟩
            · simp only [Bool.or_eq_false_iff] at hc
              rw [e2 hc.2, e1 hc.1]
            · cases j with
              | zero =>
                simp only [denVs, List.getElem?_cons_zero, Option.some.injEq] at hj
                rw [← hj, ← denV_agree a2 v ht']
                exact c1
              | succ j =>
                simp only [denVs, List.getElem?_cons_succ] at hj
                have := c2 j u hj
                rw [← (a1 id hid').1] at this
                rw [← this]; congr 2; omega
          · cases h
        · cases h
      · cases h
    · cases h
end
section
variable (K : KT)
/-- A load. -/
def evLd (P : Program) (R : RegL) (n : Nat) (Z H : KT.H K) (T : TypeId) (x : V) : Option (Nat × KT.H K × V) :=
  match x with
  | .ptr id o => match aggSize P T with
    | some none => match opn K n H id o with
      | some (false, H', v) => some (n, H', v)
      | some (true, H', v) => match Nat.ble (topR R) n && Nat.ble (topH Z) n with
        | true => some (n + 1, H', v)
        | false => none
      | none => none
    | some (some k) => match opnN K k n H id o with
      | some (false, H', l) => some (n, H', .agg l)
      | some (true, H', l) => match Nat.ble (topR R) n && Nat.ble (topH Z) n with
        | true => some (n + k, H', .agg l)
        | false => none
      | none => none
    | none => none
  | _ => none
end
section
variable {K : KT} {P : Program} {nt n B : Nat} {W : World} {R : RegL} {Z H : KT.H K} {nx : Nat → KT.H K → V → Prop}
theorem load1_run {w : World} {b o : Nat} {T : TypeId} {v : Value} (ht : aggSize P T = some none) (h : w.cell? ⟨b, o, none⟩ = some v) : (Instr.loadAt T (.pointer (some ⟨b, o, none⟩))).run P w = .ok v w :=
  load_run (us := [v]) ht rfl (fun j u hj => by
    cases j with
    | zero => simp at hj; subst hj; exact h
    | succ j => simp at hj) rfl
theorem step_load {o : Oper} {T : TypeId} {x : Operand} {u v : V} {n' : Nat} {H' : KT.H K} (ho : o.op = .load T x) (hx : evO R x = some u) (h : evLd K P R n Z H T u = some (n', H', v)) (hn : nx n' H' v) : StepOk K P nt B W o R n Z H nx := fun F ρ a w s => by
  obtain ⟨d, op, ty, ps, af, g⟩ := o
  simp only at ho
  subst ho
  have ex := (evO_ok (ρ := ρ) hx).eval s.regs
  unfold evLd at h
  split at h
  · rename_i id o'
    have fin : ∀ (ρ' : Env) (vv : V) (nn : Nat) (HH : KT.H K), n ≤ nn → Agree n ρ ρ' → dR ρ' R = dR ρ R → Sat B w (dS K ρ' Z HH F) → nx nn HH vv → (Instr.loadAt T (.pointer (some ⟨(ρ.p id).1, (ρ.p id).2 + o', none⟩))).run P w = .ok (denV ρ' vv) w →
        turnUpon P (fun (x : Nx K) w' => (Agree n ρ x.ρ ∧ n ≤ x.n ∧ dR x.ρ R = dR ρ R ∧ nx x.n x.H x.v) ∧ Cls B W (dS K x.ρ Z x.H F) w') (fun x => denV x.ρ x.v) ((execOp a.eval ⟨d, .load T x, ty, ps, af, g⟩).run P w) := by
      intro ρ' vv nn HH h1 h2 h3 h4 h5 h6
      have : (execOp a.eval ⟨d, .load T x, ty, ps, af, g⟩).run P w = .ok (.value (denV ρ' vv)) w := by
        simp only [execOp, ex, denV]
        rw [run_bind_ok h6]; rfl
      rw [this]
      exact ⟨⟨ρ', nn, HH, vv⟩, rfl, ⟨h2, h1, h3, h5⟩, s.below, s.lo, h4⟩
    split at h
    · rename_i hT
      split at h
      · rename_i h1
        cases h
        obtain ⟨ρ', ⟨ha, he⟩, s1, hc⟩ := opn_ok (X := tl K Z F) h1 (fun e => by cases e) s.sat
        obtain rfl := he rfl
        exact fin _ _ _ _ (Nat.le_refl _) ha rfl s1 hn (load1_run hT hc)
      · rename_i h1
        split at h
        · rename_i hR
          cases h
          simp only [Bool.and_eq_true] at hR
          obtain ⟨ρ', ⟨ha, he⟩, s1, hc⟩ := opn_ok (X := tl K Z F) h1 (fun _ ρ' ha => tl_agree (Nat.le_of_ble_eq_true hR.2) ha) s.sat
          exact fin _ _ _ _ (Nat.le_succ _) ha (dR_agree ha _ (Nat.le_of_ble_eq_true hR.1)).symm s1 hn (load1_run hT hc)
        · cases h
      · cases h
    · rename_i k hT
      split at h
      · rename_i h1
        cases h
        obtain ⟨ρ', ⟨ha, he⟩, s1, hl, hc⟩ := opnN_ok (X := tl K Z F) (fun e => by cases e) h1 s.sat
        obtain rfl := he rfl
        exact fin _ _ _ _ (Nat.le_refl _) ha rfl s1 hn (load_run hT (by rw [denVs_map]; simpa using hl) hc rfl)
      · rename_i h1
        split at h
        · rename_i hR
          cases h
          simp only [Bool.and_eq_true] at hR
          obtain ⟨ρ', ⟨ha, he⟩, s1, hl, hc⟩ := opnN_ok (X := tl K Z F) (fun _ _ _ ha => tl_agree (Nat.le_of_ble_eq_true hR.2) ha) h1 s.sat
          exact fin _ _ _ _ (Nat.le_add_right ..) ha (dR_agree ha _ (Nat.le_of_ble_eq_true hR.1)).symm s1 hn (load_run hT (by rw [denVs_map]; simpa using hl) hc rfl)
        · cases h
      · cases h
    · cases h
  · cases h
end
/-! ### Stores -/
def cellsV : V → List V
  | .agg l => l
  | v => [v]
section
variable {K : KT}
/-- A value that one cell holds. -/
def scV (H : KT.H K) : V → Bool
  | .agg _ => false
  | .tup _ => false
  | .c v => scalar v
  | .mc id => match get H id with
    | some (.mach _) => true
    | _ => false
  | _ => true
def setN {T : Nat → Type} {M : Type} (fs : List (Fd T M)) (o : Nat) (us : List V) : List (Fd T M) := fs.take o ++ us.map .v ++ fs.drop (o + us.length)
theorem fsS_setN {ρ : Env} : ∀ {us : List V} {o : Nat} {fs : List (Fd K.T K.M)} {vs : List Value} {L : List SProp} {h : Hp}, o + us.length ≤ fs.length → fs.length = vs.length → star (fsS (fS K ρ) fs vs ++ L) h →
    star (fsS (fS K ρ) (setN fs o us) (vs.take o ++ denVs ρ us ++ vs.drop (o + us.length)) ++ L) h
  | us, o + 1, [], vs, L, h, h1, _, _ => by simp at h1
  | us, o + 1, f :: fs, [], L, h, _, h2, _ => by simp at h2
  | us, o + 1, f :: fs, v :: vs, L, h, h1, h2, s => by
    have e1 : setN (f :: fs) (o + 1) us = f :: setN fs o us := by simp [setN, Nat.add_right_comm o 1]
    have e2 : (v :: vs).take (o + 1) ++ denVs ρ us ++ (v :: vs).drop (o + 1 + us.length) = v :: (vs.take o ++ denVs ρ us ++ vs.drop (o + us.length)) := by simp [Nat.add_right_comm o 1]
    rw [e1, e2]
    simp only [fsS, List.cons_append] at s ⊢
    exact star_tail (fun k hk => fsS_setN (by simp at h1; omega) (by simpa using h2) hk) s
  | [], 0, fs, vs, L, h, _, _, s => by simpa [setN, denVs] using s
  | u :: us, 0, [], vs, L, h, h1, _, _ => by simp at h1
  | u :: us, 0, f :: fs, [], L, h, _, h2, _ => by simp at h2
  | u :: us, 0, f :: fs, v :: vs, L, h, h1, h2, s => by
    have e1 : setN (f :: fs) 0 (u :: us) = .v u :: setN fs 0 us := by simp [setN]
    have e2 : (v :: vs).take 0 ++ denVs ρ (u :: us) ++ (v :: vs).drop (0 + (u :: us).length) = denV ρ u :: (vs.take 0 ++ denVs ρ us ++ vs.drop (0 + us.length)) := by simp [denVs]
    rw [e1, e2]
    simp only [fsS, List.cons_append] at s ⊢
    have s1 := Ent.drop h s
    exact ent_pureI (p := denV ρ u = denV ρ u) rfl h (fsS_setN (us := us) (o := 0) (by simp at h1 ⊢; omega) (by simpa using h2) s1)
theorem scV_ok {ρ : Env} {H : KT.H K} {X : List SProp} {B : Nat} {w : World} {v : V} (h : scV H v = true) (s : Sat B w (dH K ρ H ++ X)) : scalar (denV ρ v) = true := by
  cases v <;> first | rfl | (cases h; done) | exact h | skip
  rename_i id
  simp only [scV] at h
  split at h
  · rename_i m hg
    obtain ⟨hh, Hh, k1, k2, a, e, hA, hL⟩ := s.imp (ent_get (ρ := ρ) hg)
    have hA' : pcS K (.mach m) (ρ.v id) k1 := hA
    rw [pcS_iff] at hA'
    simp only [pcW] at hA'
    simp only [denV]
    split at hA'
    · rw [hA']; rfl
    · obtain ⟨q, e', _⟩ := hA'; rw [e']; rfl
  · cases h
theorem scalar_cells {v : Value} (h : scalar v = true) : v.cells.toList = [v] := by cases v <;> simp [scalar] at h <;> rfl
theorem cells_den {ρ : Env} {H : KT.H K} {X : List SProp} {B : Nat} {w : World} {v : V} (h : (cellsV v).all (scV H) = true) (s : Sat B w (dH K ρ H ++ X)) : (denV ρ v).cells.toList = denVs ρ (cellsV v) ∧ (denVs ρ (cellsV v)).all scalar = true := by
  have h2 : (denVs ρ (cellsV v)).all scalar = true := by
    rw [denVs_map, List.all_map, List.all_eq_true]
    intro x hx
    exact scV_ok (List.all_eq_true.1 h x hx) s
  refine ⟨?_, h2⟩
  cases v with
  | agg l => simp [denV, Value.cells, cellsV]
  | _ => exact scalar_cells (by simpa [cellsV, denVs] using h2)
end
section
variable (K : KT)
/-- A store into cells of the call's own. -/
def evSt (P : Program) (H : KT.H K) (T : TypeId) (x u : V) : Option (KT.H K) :=
  match x with
  | .ptr id o => match get H id with
    | some (.cells fs) => match Nat.beq (P.cellsOf T) (cellsV u).length && Nat.blt 0 (cellsV u).length && Nat.ble (o + (cellsV u).length) fs.length && (cellsV u).all (scV H) with
      | true => some ((id, .cells (setN fs o (cellsV u))) :: del H id)
      | false => none
    | _ => none
  | _ => none
end
section
variable {K : KT} {P : Program} {nt n B : Nat} {W : World} {R : RegL} {Z H : KT.H K} {nx : Nat → KT.H K → V → Prop}
theorem step_store {o : Oper} {T : TypeId} {x y : Operand} {u v : V} {H' : KT.H K} (ho : o.op = .store T x y) (hx : evO R x = some u) (hy : evO R y = some v) (h : evSt K P H T u v = some H') (hn : nx n H' (.c undef)) : StepOk K P nt B W o R n Z H nx := fun F ρ a w s => by
  obtain ⟨d, op, ty, ps, af, g⟩ := o
  simp only at ho
  subst ho
  have ex := (evO_ok (ρ := ρ) hx).eval s.regs
  have ey := (evO_ok (ρ := ρ) hy).eval s.regs
  unfold evSt at h
  split at h
  · rename_i id o'
    split at h
    · rename_i fs hg
      split at h
      · rename_i hB
        cases h
        simp only [Bool.and_eq_true] at hB
        obtain ⟨⟨⟨b1, b2⟩, b3⟩, b4⟩ := hB
        have b1' := Nat.eq_of_beq_eq_true b1
        have b2' : 0 < (cellsV v).length := Nat.le_of_ble_eq_true b2
        have b3' := Nat.le_of_ble_eq_true b3
        obtain ⟨hcl, hsc⟩ := cells_den b4 s.sat
        obtain ⟨vs, s2⟩ := sat_open (s.sat.imp (ent_get (ρ := ρ) hg))
        have hl := sat_len s2
        have hlen : (denVs ρ (cellsV v)).length = (cellsV v).length := by rw [denVs_map]; simp
        obtain ⟨w', hr, c1, c2, c3⟩ := storeVar_run (P := P) (T := T) (v := denV ρ v) (W := W) (o' := (ρ.p id).2 + o') (i := o') (k := (cellsV v).length) (us := denVs ρ (cellsV v)) s2 s.below s.lo rfl b1' hlen b2' hcl hsc (by omega)
        have : (execOp a.eval ⟨d, .store T x y, ty, ps, af, g⟩).run P w = .ok .skip w' := by
          simp only [execOp, ex, ey, denV, Instr.storeAt, Instr.sureAddr]
          rw [run_bind_ok (a := ()) (w' := w') (by rw [run_bind_ok (a := (⟨(ρ.p id).1, (ρ.p id).2 + o', none⟩ : Addr)) (w' := w) rfl]; exact hr)]
          rfl
        rw [this]
        refine ⟨⟨ρ, n, _, .c undef⟩, rfl, ⟨Agree.refl _ _, Nat.le_refl _, rfl, hn⟩, c1, c2, c3.imp fun h hk => ?_⟩
        obtain ⟨k1, k2, a', e', hp, hq⟩ := hk
        have hq2 := fsS_setN (us := cellsV v) (o := o') b3' hl hq
        have s6 : star ((pts (ρ.p id).1 (ρ.p id).2 (vs.take o' ++ denVs ρ (cellsV v) ++ vs.drop (o' + (cellsV v).length)) :: fsS (fS K ρ) (setN fs o' (cellsV v)) (vs.take o' ++ denVs ρ (cellsV v) ++ vs.drop (o' + (cellsV v).length))) ++ (dH K ρ (del H id) ++ tl K Z F ρ)) h := ⟨k1, k2, a', e', hp, hq2⟩
        obtain ⟨j1, j2, a'', e'', g1, g2⟩ := star_append.1 s6
        exact ⟨j1, j2, a'', e'', ⟨_, g1⟩, g2⟩
      · cases h
    · cases h
  · cases h
end
/-! ### Memory of its own -/
section
variable (K : KT)
def freshB (R : RegL) (n : Nat) (Z H : KT.H K) : Bool := Nat.ble (topR R) n && Nat.ble (topH Z) n && Nat.ble (topH H) n
/-- A variable with these cells. -/
def newC (R : RegL) (n : Nat) (Z H : KT.H K) (vs : List V) : Option (Nat × KT.H K × V) :=
  match freshB K R n Z H && Nat.ble (topVs vs) n with
  | true => some (n + 1, (n, .cells (vs.map .v)) :: H, .ptr n 0)
  | false => none
def zeroV (P : Program) (T : TypeId) : Option (List V) := (zeroOf P T).map fun z => z.cells.toList.map conV
end
section
variable {K : KT} {P : Program} {nt n B : Nat} {W : World} {R : RegL} {Z H : KT.H K} {nx : Nat → KT.H K → V → Prop}
theorem fsS_vals {ρ : Env} : ∀ {vs : List V} {L : List SProp} {h : Hp}, star L h → star (fsS (fS K ρ) (vs.map .v) (denVs ρ vs) ++ L) h
  | [], _, _, s => s
  | v :: vs, L, h, s => ent_pureI (p := denV ρ v = denV ρ v) rfl h (fsS_vals (vs := vs) s)
theorem newC_ok {o : Oper} {vs : List V} {n' : Nat} {H' : KT.H K} {v : V} (h : newC K R n Z H vs = some (n', H', v)) (hn : nx n' H' v)
    (ho : ∀ F ρ a w, Sta nt B W (dR ρ R) (dS K ρ Z H F) a w → ∃ u T, (execOp a.eval o).run P w = .ok (.value (.pointer (some ⟨w.heap.size, 0, none⟩))) (w.alloc (.cells u T)) ∧ u.toList = denVs ρ vs) : StepOk K P nt B W o R n Z H nx := fun F ρ a w s => by
  unfold newC at h
  split at h
  · rename_i hB
    cases h
    simp only [freshB, Bool.and_eq_true] at hB
    obtain ⟨⟨⟨b1, b0⟩, b2⟩, b3⟩ := hB
    have b1' := Nat.le_of_ble_eq_true b1
    have b0' := Nat.le_of_ble_eq_true b0
    have b2' := Nat.le_of_ble_eq_true b2
    have b3' := Nat.le_of_ble_eq_true b3
    obtain ⟨u, T, hr, hu⟩ := ho F ρ a w s
    rw [hr]
    have ha := agree_setP ρ n (w.heap.size, 0)
    refine ⟨⟨ρ.setP n (w.heap.size, 0), n + 1, _, .ptr n 0⟩, by simp [denV, Env.setP], ⟨ha, Nat.le_succ _, (dR_agree ha R b1').symm, hn⟩, below_fresh s.below s.lo _, by simpa using Nat.le_succ_of_le s.lo, ?_⟩
    have s1 := s.sat.fresh (cs := u) (T := T) s.lo
    refine s1.imp fun h hk => ?_
    obtain ⟨k1, k2, a', e', hp, hq⟩ := hk
    rw [hu, denVs_agree ha vs b3'] at hp
    have hq' : star (dS K (ρ.setP n (w.heap.size, 0)) Z H F) k2 := by unfold dS; rw [← dH_agree ha H b2', ← tl_agree b0' ha]; exact hq
    have s6 : star ((pts w.heap.size 0 (denVs (ρ.setP n (w.heap.size, 0)) vs) :: fsS (fS K (ρ.setP n (w.heap.size, 0))) (vs.map .v) (denVs (ρ.setP n (w.heap.size, 0)) vs)) ++ dS K (ρ.setP n (w.heap.size, 0)) Z H F) h := ⟨k1, k2, a', e', hp, fsS_vals hq'⟩
    obtain ⟨j1, j2, a'', e'', g1, g2⟩ := star_append.1 s6
    exact ⟨j1, j2, a'', e'', ⟨_, by simpa [Env.setP] using g1⟩, g2⟩
  · cases h
theorem step_alloc {o : Oper} {T : TypeId} {vs : List V} {n' : Nat} {H' : KT.H K} {v : V} (ho : o.op = .alloc T) (hz : zeroV P T = some vs) (h : newC K R n Z H vs = some (n', H', v)) (hn : nx n' H' v) : StepOk K P nt B W o R n Z H nx := by
  refine newC_ok h hn fun F ρ a w s => ?_
  obtain ⟨d, op, ty, ps, af, g⟩ := o
  simp only at ho
  subst ho
  simp only [zeroV, Option.map_eq_some_iff] at hz
  obtain ⟨z, hz, rfl⟩ := hz
  refine ⟨z.cells, T, ?_, ?_⟩
  · simp only [execOp, Instr.alloc]
    rw [run_bind_ok (a := Value.pointer (some ⟨w.heap.size, 0, none⟩)) (w' := w.alloc (.cells z.cells T)) (by rw [run_bind_ok (zero_run hz)]; exact run_bind_ok (newVar_run T z))]
    rfl
  · rw [denVs_map, List.map_map]
    have : (denV ρ ∘ conV) = id := by funext x; exact conV_den ρ x
    rw [this, List.map_id]
theorem step_box {o : Oper} {T : TypeId} {x : Operand} {u : V} {n' : Nat} {H' : KT.H K} {v : V} (ho : o.op = .box T x) (hx : evO R x = some u) (hs : (cellsV u).all (scV H) = true) (h : newC K R n Z H (cellsV u) = some (n', H', v)) (hn : nx n' H' v) : StepOk K P nt B W o R n Z H nx := by
  refine newC_ok h hn fun F ρ a w s => ?_
  obtain ⟨d, op, ty, ps, af, g⟩ := o
  simp only at ho
  subst ho
  have ex := (evO_ok (ρ := ρ) hx).eval s.regs
  refine ⟨(denV ρ u).cells, T, ?_, (cells_den hs s.sat).1⟩
  simp only [execOp, ex, Instr.box]
  rw [run_bind_ok (a := Value.pointer (some ⟨w.heap.size, 0, none⟩)) (w' := w.alloc (.cells (denV ρ u).cells T)) (by rw [run_bind_ok (newVar_run T _)]; rfl)]
  rfl
end
end
end Go.Proofs.YtpbkelpokpglaaaGreat
