/- Evaluation by itself, 4: what is held, by numbers; fields opened; cells read and written. No program occurs here. Evaluation by itself, 5: reading. No program occurs here. Evaluation by itself, 6: loads, stores, memory of its own. No program occurs here. Evaluation by itself, 7: a region that draws its order: what is read may be read first, if it is set aside for the rest of the region. No program occurs here. -/
import Derived.Test.YtkmkhldmflebkaaMzab
set_option linter.all false
namespace Go.Proofs.Ytkmkhldmflebkaa
section
open Go Go.RowKit
inductive Fd (T : Nat → Type) (M : Type) where
  | v (x : V)
  | f (x : Fl T M)
inductive Ch (T : Nat → Type) (M : Type) where
  | cells (fs : List (Fd T M))
  | row (c : Nat) (xs : List (T c))
  | ro (c : Nat) (xs : List (T c))
  | rr (c : Nat) (xss : List (List (T c)))
  | elt (j : Nat) (i : Int) (sz : Nat)
  | arr (m sz : Nat) (vs : List V)
  | mach (m : M)
  | any (A : aag)
  | hole (c : Nat) (xs : List (T c)) (i : Int) (o : Nat) (u : V)
  | gap (c : Nat) (xs : List (T c)) (i : Int) (e : Nat)
  | slc (e m sz : Nat)
  | fm (l : List (Int × FuncId)) (o : Nat)
section
variable (K : KT)
abbrev KT.D := Fd K.T K.M
abbrev KT.C := Ch K.T K.M
abbrev KT.H := List (Nat × Ch K.T K.M)
def fS (ρ : Env) : Fd K.T K.M → Value → aag
  | .v x, v => ag0 (v = aap ρ x)
  | .f x, v => pcS K x v
def akC (ρ : Env) (id j sz : Nat) (i : Int) : Prop := (0 ≤ i ∧ i < ((ρ.s j).n : Int)) ∧ ∃ b o, (ρ.s j).a = some ⟨b, o, none⟩ ∧ ρ.p id = (b, o + i.toNat * sz)
def aut (A : Option Addr) (n cap c : Nat) (xs : List (K.T c)) (i : Int) (q : Nat × Nat) : aag := fun h => ∃ (b o : Nat) (vss : List (List Value)) (spare : List Value) (N : List aag), (0 ≤ i ∧ i < (xs.length : Int)) ∧ (A = some ⟨b, o, none⟩ ∧ n = xs.length ∧ q = (b, o + i.toNat * K.sz c)) ∧ (vss.length = xs.length ∧ ∀ v ∈ vss, v.length = K.sz c) ∧
  (xs.length ≤ cap ∧ cap ≤ maxLen ∧ spare.length = (cap - xs.length) * K.sz c) ∧ (∀ x' vs', (abj K (pcS K) c (xs.set i.toNat x') (vss.set i.toNat vs')).Perm (fsS (pcS K) (K.vw c x') vs' ++ N)) ∧
  aba (pts b o (vss.flatten.take (i.toNat * K.sz c)) :: pts b (o + i.toNat * K.sz c + K.sz c) (vss.flatten.drop (i.toNat * K.sz c + K.sz c) ++ spare) :: N) h
def atz (A : Option Addr) (cap c : Nat) (xs : List (K.T c)) (i : Int) (o : Nat) (v : Value) : aag := fun h => ∃ (x : K.T c) (vss : List (List Value)) (vs : List Value) (N : List aag),
  (xs[i.toNat]? = some x ∧ vss[i.toNat]? = some vs ∧ vs[o]? = some v) ∧ (∀ x', (abj K (pcS K) c (xs.set i.toNat x') vss).Perm (fsS (pcS K) (K.vw c x') vs ++ N)) ∧ o < (K.vw c x).length ∧
  aba (acx A xs.length cap (K.sz c) vss.flatten :: (fsS (pcS K) ((K.vw c x).eraseIdx o) (vs.eraseIdx o) ++ N)) h
def fmF (p : Value) : List (Int × FuncId) → Int → Option Value
  | [], _ => none
  | x :: l, k => if k = x.1 then some (.func (.func x.2) #[p] #[]) else fmF p l k
def aby (ρ : Env) (id : Nat) : Ch K.T K.M → aag
  | .cells fs => exL fun vs : List Value => pts (ρ.p id).1 (ρ.p id).2 vs :: fsS (fS K ρ) fs vs
  | .row c xs => fun h => (ρ.s id).n = xs.length ∧ rwS K c xs (ρ.s id).a (ρ.s id).c h
  | .ro c xs => fun h => (ρ.s id).n = xs.length ∧ roS (acJ K c) (K.sz c) (ρ.s id).a (ρ.s id).c xs h
  | .rr c xss => fun h => (ρ.s id).n = xss.length ∧ rrS (acJ K c) (K.sz c) (ρ.s id).a (ρ.s id).c xss h
  | .elt j i sz => ag0 (akC ρ id j sz i)
  | .arr m sz vs => fun h => (ρ.s id = ⟨some ⟨(ρ.p id).1, (ρ.p id).2, none⟩, m, m⟩ ∧ vs.length = m * sz ∧ m ≤ maxLen) ∧ pts (ρ.p id).1 (ρ.p id).2 (aak ρ vs) h
  | .mach m => pcS K (.mach m) (ρ.v id)
  | .any A => A
  | .hole c xs i o u => fun h => (ρ.s id).n = xs.length ∧ atz K (ρ.s id).a (ρ.s id).c c xs i o (aap ρ u) h
  | .gap c xs i e => aut K (ρ.s id).a (ρ.s id).n (ρ.s id).c c xs i (ρ.p e)
  | .slc e m sz => fun h => ((ρ.s id).a = some ⟨(ρ.p e).1, (ρ.p e).2, none⟩ ∧ (ρ.s id).n = m ∧ m ≤ (ρ.s id).c ∧ (ρ.s id).c ≤ maxLen) ∧ ∃ spare : List Value, spare.length = ((ρ.s id).c - m) * sz ∧ pts (ρ.p e).1 ((ρ.p e).2 + m * sz) spare h
  | .fm l o => fun h => ∃ b, ρ.v id = .map (some b) ∧ aum (fun v : Value => v) (fmF (aap ρ (.ptr o 0)) l) b h
def dH (ρ : Env) (H : KT.H K) : List aag := H.map fun p => aby K ρ p.1 p.2
end
section
variable {T : Nat → Type} {M : Type}
def ao8 : Fd T M → Nat
  | .v x => aeY x
  | .f _ => 0
def af2 : List (Fd T M) → Nat
  | [] => 0
  | f :: fs => mx (ao8 f) (af2 fs)
def ajX : Ch T M → Nat
  | .cells fs => af2 fs
  | .elt j _ _ => j + 1
  | .arr _ _ vs => aeq vs
  | .hole _ _ _ _ u => aeY u
  | .gap _ _ _ e => e + 1
  | .slc e _ _ => e + 1
  | .fm _ o => o + 1
  | _ => 0
def ac2 : List (Nat × Ch T M) → Nat
  | [] => 0
  | p :: H => mx (mx (p.1 + 1) (ajX p.2)) (ac2 H)
theorem agc {a b n : Nat} (h : mx a b ≤ n) : a ≤ n ∧ b ≤ n := ⟨Nat.le_trans aqZ h, Nat.le_trans apl h⟩
end
section
variable {K : KT} {ρ ρ' : Env} {n : Nat}
theorem aoD (h : aat n ρ ρ') (f : Fd K.T K.M) (hn : ao8 f ≤ n) : fS K ρ f = fS K ρ' f := by
  cases f with
  | v x => funext v; simp only [fS, aaX h x hn]
  | f x => rfl
theorem ahG (h : aat n ρ ρ') : ∀ (fs : List (Fd K.T K.M)) (vs : List Value), af2 fs ≤ n → fsS (fS K ρ) fs vs = fsS (fS K ρ') fs vs
  | [], [], _ => rfl
  | f :: fs, v :: vs, hn => by
    simp only [af2] at hn
    simp only [fsS, aoD h f (agc hn).1, ahG h fs vs (agc hn).2]
  | [], _ :: _, _ => rfl
  | _ :: _, [], _ => rfl
theorem acp (h : aat n ρ ρ') {id : Nat} (hid : id < n) (c : Ch K.T K.M) (hn : ajX c ≤ n) : aby K ρ id c = aby K ρ' id c := by
  cases c with
  | cells fs =>
    simp only [ajX] at hn
    simp only [aby, (h id hid).1]
    congr 1
    funext vs
    rw [ahG h fs vs hn]
  | row c xs => simp only [aby, (h id hid).2.1]
  | ro c xs => simp only [aby, (h id hid).2.1]
  | rr c xs => simp only [aby, (h id hid).2.1]
  | elt j i sz => simp only [ajX] at hn; simp only [aby, akC, (h id hid).1, (h j (by omega)).2.1]
  | arr m sz vs => simp only [ajX] at hn; simp only [aby, (h id hid).1, (h id hid).2.1, ab3 h vs hn]
  | mach m => simp only [aby, (h id hid).2.2]
  | any A => rfl
  | hole c xs i o u => simp only [ajX] at hn; simp only [aby, (h id hid).2.1, aaX h u hn]
  | gap c xs i e => simp only [ajX] at hn; simp only [aby, (h id hid).2.1, (h e (by omega)).1]
  | slc e m sz => simp only [ajX] at hn; simp only [aby, (h id hid).2.1, (h e (by omega)).1]
  | fm l o => simp only [ajX] at hn; simp only [aby, aap, (h id hid).2.2, (h o (by omega)).1]
theorem abg (h : aat n ρ ρ') : ∀ H : KT.H K, ac2 H ≤ n → dH K ρ H = dH K ρ' H
  | [], _ => rfl
  | p :: H, hn => by
    simp only [ac2] at hn
    have h1 := agc (agc hn).1
    show aby K ρ p.1 p.2 :: dH K ρ H = aby K ρ' p.1 p.2 :: dH K ρ' H
    rw [abg h H (agc hn).2, acp h h1.1 _ h1.2]
theorem aiT {id : Nat} {L : List aag} : ∀ {H : KT.H K}, Ent (dH K ρ H ++ L) (dH K ρ (del H id) ++ L)
  | [] => Ent.refl
  | (t, c) :: H => by
    unfold del
    split
    · exact Ent.drop.trans aiT
    · exact Ent.cons (fun _ h => h) aiT
theorem aaK {id : Nat} {c : Ch K.T K.M} {L : List aag} : ∀ {H : KT.H K}, get H id = some c → Ent (dH K ρ H ++ L) (aby K ρ id c :: (dH K ρ (del H id) ++ L))
  | [], h => by cases h
  | (t, c') :: H, h => by
    unfold get at h
    unfold del
    split at h
    · rename_i e
      have e' : t = id := Nat.eq_of_beq_eq_true e
      simp only [Option.some.injEq] at h
      subst e' h
      exact Ent.cons (fun _ h => h) aiT
    · have ih := aaK (L := L) (H := H) h
      exact (Ent.cons (A := aby K ρ t c') (fun _ h => h) ih).trans (Ent.perm (List.Perm.swap ..))
theorem alT {fs : List (Fd K.T K.M)} {i : Nat} {f : Fd K.T K.M} (h : fs[i]? = some f) : ao8 f ≤ af2 fs := by
  induction fs generalizing i with
  | nil => cases h
  | cons g fs ih =>
    cases i with
    | zero => simp at h; subst h; exact aqZ
    | succ i => exact Nat.le_trans (ih (by simpa using h)) apl
theorem aer {id : Nat} {c : Ch K.T K.M} : ∀ {H : KT.H K}, get H id = some c → id < ac2 H ∧ ajX c ≤ ac2 H
  | [], h => by cases h
  | (t, c') :: H, h => by
    unfold get at h
    have hm := agc (Nat.le_refl (ac2 ((t, c') :: H)))
    split at h
    · rename_i e
      have e' : t = id := Nat.eq_of_beq_eq_true e
      simp only [Option.some.injEq] at h
      subst e' h
      exact ⟨(agc hm.1).1, (agc hm.1).2⟩
    · have := aer h
      exact ⟨Nat.lt_of_lt_of_le this.1 hm.2, Nat.le_trans this.2 hm.2⟩
theorem acN {id : Nat} : ∀ {H : KT.H K}, ac2 (del H id) ≤ ac2 H
  | [] => Nat.le_refl _
  | (t, c) :: H => by
    unfold del
    split
    · exact Nat.le_trans acN apl
    · exact ahS ⟨aqZ, Nat.le_trans acN apl⟩
theorem afp {F : Type} {pc : F → Value → aag} : ∀ {fs : List F} {vs : List Value} {i : Nat} {f : F} {v : Value}, fs[i]? = some f → vs[i]? = some v →
    (fsS pc fs vs).Perm (pc f v :: fsS pc (fs.eraseIdx i) (vs.eraseIdx i)) ∧ ∀ f' v', (fsS pc (fs.set i f') (vs.set i v')).Perm (pc f' v' :: fsS pc (fs.eraseIdx i) (vs.eraseIdx i))
  | [], _, _, _, _, h, _ => by cases h
  | _ :: _, [], _, _, _, _, h => by cases h
  | g :: fs, u :: vs, 0, f, v, h, h' => by
    simp at h h'; subst h h'
    exact ⟨.refl _, fun _ _ => .refl _⟩
  | g :: fs, u :: vs, i + 1, f, v, h, h' => by
    obtain ⟨h1, h2⟩ := afp (pc := pc) (fs := fs) (vs := vs) (i := i) (by simpa using h) (by simpa using h')
    exact ⟨(h1.cons _).trans (.swap ..), fun f' v' => ((h2 f' v').cons _).trans (.swap ..)⟩
theorem ahj {K : KT} : ∀ {fs : List (Fd K.T K.M)} {i : Nat}, af2 (fs.eraseIdx i) ≤ af2 fs
  | [], _ => Nat.le_refl _
  | _ :: _, 0 => apl
  | _ :: _, _ + 1 => ahS ⟨aqZ, Nat.le_trans ahj apl⟩
theorem aio {α : Type} {l : List α} {i : Nat} {a : α} (h : l[i]? = some a) : l.set i a = l := by
  obtain ⟨hlt, rfl⟩ := List.getElem?_eq_some_iff.1 h
  simp
theorem aki {F : Type} {pc : F → Value → aag} : ∀ {fs : List F} {vs : List Value} {L : List aag} {h : Hp}, aba (fsS pc fs vs ++ L) h → fs.length = vs.length
  | [], [], _, _, _ => rfl
  | _ :: fs, _ :: vs, L, _, ⟨_, _, _, _, _, s⟩ => by simp [aki s]
  | [], _ :: _, _, _, ⟨_, _, _, _, hf, _⟩ => hf.elim
  | _ :: _, [], _, _, ⟨_, _, _, _, hf, _⟩ => hf.elim
theorem ae4 {F : Type} {pc : F → Value → aag} {fs : List F} {vs : List Value} {B : Nat} {w : World} {A : aag} {L : List aag} (s : Sat B w (A :: (fsS pc fs vs ++ L))) : fs.length = vs.length := by
  obtain ⟨h, _, k1, k2, _, _, _, hL⟩ := s
  exact aki hL
theorem Sat.pure {B : Nat} {w : World} {p : Prop} {L : List aag} (s : Sat B w (ag0 p :: L)) : p := by
  obtain ⟨h, _, k1, k2, _, _, hA, _⟩ := s
  exact hA
theorem aoT {B : Nat} {w : World} {H : KT.H K} {X : List aag} {id o : Nat} {fs : List (Fd K.T K.M)} {f : Fd K.T K.M} (s : Sat B w (dH K ρ H ++ X)) (hg : get H id = some (.cells fs)) (hf : fs[o]? = some f) :
    ∃ vs v, vs[o]? = some v ∧ fs.length = vs.length ∧ Sat B w (pts (ρ.p id).1 (ρ.p id).2 vs :: (fsS (fS K ρ) fs vs ++ (dH K ρ (del H id) ++ X))) ∧ w.cell? ⟨(ρ.p id).1, (ρ.p id).2 + o, none⟩ = some v := by
  have s1 := s.imp (aaK (ρ := ρ) hg)
  obtain ⟨vs, s2⟩ := adZ s1
  have hl := ae4 s2
  have ho : o < vs.length := by rw [← hl]; exact (List.getElem?_eq_some_iff.1 hf).1
  exact ⟨vs, vs[o], List.getElem?_eq_getElem ho, hl, s2, (s2.cell (List.getElem?_eq_getElem ho)).2.1⟩
theorem alY {B : Nat} {w : World} {A P : aag} {X Y L : List aag} (s : Sat B w (A :: (X ++ L))) (p : X.Perm (P :: Y)) : Sat B w (P :: A :: (Y ++ L)) :=
  s.perm ((List.Perm.cons _ (p.append_right L)).trans (List.Perm.swap ..))
end
def Env.setP (ρ : Env) (n : Nat) (q : Nat × Nat) : Env := { ρ with p := fun i => if i = n then q else ρ.p i }
def Env.setS (ρ : Env) (n : Nat) (q : Sle) : Env := { ρ with s := fun i => if i = n then q else ρ.s i }
def Env.setV (ρ : Env) (n : Nat) (q : Value) : Env := { ρ with v := fun i => if i = n then q else ρ.v i }
theorem aen (ρ : Env) (n : Nat) (q : Nat × Nat) : aat n ρ (ρ.setP n q) := fun k hk => ⟨by simp only [Env.setP]; rw [if_neg (by omega)], rfl, rfl⟩
theorem abk (ρ : Env) (n : Nat) (q : Sle) : aat n ρ (ρ.setS n q) := fun k hk => ⟨rfl, by simp only [Env.setS]; rw [if_neg (by omega)], rfl⟩
theorem agQ (ρ : Env) (n : Nat) (q : Value) : aat n ρ (ρ.setV n q) := fun k hk => ⟨rfl, rfl, by simp only [Env.setV]; rw [if_neg (by omega)]⟩
section
variable {T : Nat → Type} {M : Type}
def opF (vw : (c : Nat) → T c → List (Fl T M)) (n : Nat) : Fd T M → V × Option (Ch T M)
  | .v x => (x, none)
  | .f (.i k x) => (.i k x, none)
  | .f (.b x) => (.b x, none)
  | .f (.c u) => (anN u, none)
  | .f (.own c x) => (.ptr n 0, some (.cells ((vw c x).map .f)))
  | .f (.row c xs) => (.sl n, some (.row c xs))
  | .f (.ro c xs) => (.sl n, some (.ro c xs))
  | .f (.rr c xs) => (.sl n, some (.rr c xs))
  | .f (.mach m) => (.mc n, some (.mach m))
  | .f .o => (.mc n, some (.any fun _ => True))
end
section
variable {K : KT}
theorem ahD (pc : Fl K.T K.M → Value → aag) (pc' : Fd K.T K.M → Value → aag) (h : ∀ x v, pc' (.f x) v = pc x v) : ∀ (l : List (Fl K.T K.M)) (vs : List Value), fsS pc' (l.map .f) vs = fsS pc l vs
  | [], [] => rfl
  | f :: fs, v :: vs => by simp only [List.map_cons, fsS, h, ahD pc pc' h fs vs]
  | [], _ :: _ => rfl
  | _ :: _, [] => rfl
theorem aoN (u : Value) : aeY (anN u) = 0 := by cases u <;> rfl
theorem amw {ρ : Env} {n : Nat} {f : Fd K.T K.M} {v : Value} {k : Hp} (hn : ao8 f ≤ n) (h : fS K ρ f v k) :
    ∃ ρ', aat n ρ ρ' ∧ v = aap ρ' (opF K.vw n f).1 ∧ (match (opF K.vw n f).2 with | none => True | some c => aby K ρ' n c k) := by
  cases f with
  | v x => exact ⟨ρ, aat.refl _ _, h, trivial⟩
  | f x =>
    have h2 : pcS K x v k := h
    rw [aaI] at h2
    cases x with
    | i k x => exact ⟨ρ, aat.refl _ _, h2, trivial⟩
    | b x => exact ⟨ρ, aat.refl _ _, h2, trivial⟩
    | c u => exact ⟨ρ, aat.refl _ _, by rw [opF, aeG]; exact h2, trivial⟩
    | own c x =>
      obtain ⟨q, e, ho⟩ := h2
      refine ⟨ρ.setP n q, aen _ _ _, ?_, ?_⟩
      · rw [e]; simp [opF, aap, Env.setP]
      · rw [agD] at ho
        obtain ⟨vs, s⟩ := ho
        refine ⟨vs, ?_⟩
        simp only [Env.setP, if_true]
        rw [ahD (pcS K) _ (fun x v => rfl)]
        exact s
    | row c xs =>
      obtain ⟨A, cap, e, ho⟩ := h2
      refine ⟨ρ.setS n ⟨A, xs.length, cap⟩, abk _ _ _, ?_, ?_, ?_⟩
      · rw [e]; simp [opF, aap, Env.setS]
      · simp [Env.setS]
      · simpa [Env.setS] using ho
    | ro c xs =>
      obtain ⟨A, cap, e, ho⟩ := h2
      refine ⟨ρ.setS n ⟨A, xs.length, cap⟩, abk _ _ _, ?_, ?_, ?_⟩
      · rw [e]; simp [opF, aap, Env.setS]
      · simp [Env.setS]
      · simpa [Env.setS] using ho
    | rr c xs =>
      obtain ⟨A, cap, e, ho⟩ := h2
      refine ⟨ρ.setS n ⟨A, xs.length, cap⟩, abk _ _ _, ?_, ?_, ?_⟩
      · rw [e]; simp [opF, aap, Env.setS]
      · simp [Env.setS]
      · simpa [Env.setS] using ho
    | mach m =>
      refine ⟨ρ.setV n v, agQ _ _ _, ?_, ?_⟩
      · simp [opF, aap, Env.setV]
      · simp only [opF, aby, Env.setV, if_true]
        exact h
    | o => exact ⟨ρ.setV n v, agQ _ _ _, by simp [opF, aap, Env.setV], trivial⟩
theorem aeu {n : Nat} {f : Fd K.T K.M} (hn : ao8 f ≤ n) : aeY (opF K.vw n f).1 ≤ n + 1 ∧ (∀ c, (opF K.vw n f).2 = some c → ajX c ≤ n) := by
  cases f with
  | v x => exact ⟨Nat.le_succ_of_le hn, fun c h => by cases h⟩
  | f x =>
    cases x <;> refine ⟨?_, fun c h => ?_⟩ <;> simp only [opF, aeY, aoN] at * <;> first | omega | (cases h; done) | (cases h; simp only [ajX]) <;> try omega
    · rename_i c x
      have : ∀ l : List (Fl K.T K.M), af2 (l.map (Fd.f : Fl K.T K.M → Fd K.T K.M)) = 0 := fun l => by
        induction l with
        | nil => rfl
        | cons y l ih => simp only [List.map_cons, af2, ih, ao8]; rfl
      rw [this]; omega
end
structure Nx (K : KT) where
  ρ : Env
  n : Nat
  H : KT.H K
  v : V
def tl (K : KT) (Z : KT.H K) (F : aag) (ρ : Env) : List aag := dH K ρ Z ++ [F]
theorem abB {K : KT} {Z : KT.H K} {F : aag} {n : Nat} (h : ac2 Z ≤ n) {ρ ρ' : Env} (ha : aat n ρ ρ') : tl K Z F ρ = tl K Z F ρ' := by unfold tl; rw [abg ha Z h]
abbrev dS (K : KT) (ρ : Env) (Z H : KT.H K) (F : aag) : List aag := dH K ρ H ++ tl K Z F ρ
def aco (K : KT) (P : Program) (nt B : Nat) (W : World) (o : Oper) (R : aaM) (n : Nat) (Z H : KT.H K) (nx : Nat → KT.H K → V → Prop) : Prop :=
  ∀ F ρ a w, Sta nt B W (dR ρ R) (dS K ρ Z H F) a w → afi P (fun (x : Nx K) w' => (aat n ρ x.ρ ∧ n ≤ x.n ∧ dR x.ρ R = dR ρ R ∧ nx x.n x.H x.v) ∧ Cls B W (dS K x.ρ Z x.H F) w') (fun x => aap x.ρ x.v) ((execOp a.eval o).run P w)
section
variable {K : KT} {r : Option Nat} {P : Program} {ops : Array Oper} {Q : Exit → Act → World → Prop} {nt n B : Nat} {W : World} {R : aaM} {Z H : KT.H K} {ρ : Env} {o : Oper} {rest : List Oper} {nx : Nat → KT.H K → V → Prop} {F : aag}
theorem apU (h : aco K P nt B W o R n Z H nx) (hd : ap4 nt o.dst = true) (hg : afg ops (dR ρ R) o.guard true) (k : ∀ ρ' n' H' v, aat n ρ ρ' → n ≤ n' → nx n' H' v → RT r P ops Q nt B W rest (dR ρ' (aiA R o.dst v)) (dS K ρ' Z H' F)) : RT r P ops Q nt B W (o :: rest) (dR ρ R) (dS K ρ Z H F) := fun a w s => by
  unfold wpListIn
  rw [if_pos (hg.spec s.regs)]
  refine ai5 (h F ρ a w s) fun x w' ⟨⟨ha, hn, hR, hx⟩, hw'⟩ => ?_
  have s1 : Regs nt a (dR x.ρ R) := hR ▸ s.regs
  exact k x.ρ x.n x.H x.v ha hn hx _ _ (hw'.st (acU hd a s1))
def amG (H : KT.H K) (id : Nat) : Option Nat := match get H id with
  | some (.row _ xs) => some xs.length
  | some (.ro _ xs) => some xs.length
  | some (.rr _ xs) => some xs.length
  | some (.hole _ xs _ _ _) => some xs.length
  | some (.gap _ xs _ _) => some xs.length
  | _ => none
theorem aey {H : KT.H K} {id m : Nat} (h : amG H id = some m) {w : World} {X : List aag} (s : Sat B w (dH K ρ H ++ X)) : (ρ.s id).n = m := by
  unfold amG at h
  split at h
  · rename_i hg
    cases h
    obtain ⟨hh, Hh, k1, k2, a, e, ⟨h1', h2⟩, hL⟩ := s.imp (aaK (ρ := ρ) hg)
    exact h1'
  · rename_i hg
    cases h
    obtain ⟨hh, Hh, k1, k2, a, e, ⟨h1', h2⟩, hL⟩ := s.imp (aaK (ρ := ρ) hg)
    exact h1'
  · rename_i hg
    cases h
    obtain ⟨hh, Hh, k1, k2, a, e, ⟨h1', h2⟩, hL⟩ := s.imp (aaK (ρ := ρ) hg)
    exact h1'
  · rename_i hg
    cases h
    obtain ⟨hh, Hh, k1, k2, a, e, ⟨h1', h2⟩, hL⟩ := s.imp (aaK (ρ := ρ) hg)
    exact h1'
  · rename_i hg
    cases h
    obtain ⟨hh, Hh, k1, k2, a, e, ⟨_, _, _, _, _, _, ⟨_, h1', _⟩, _⟩, hL⟩ := s.imp (aaK (ρ := ρ) hg)
    exact h1'
  · cases h
end
def atL {α : Type} (d : α) (xs : List α) (i : Int) : α := (xs[i.toNat]?).getD d
def scF {T : Nat → Type} {M : Type} : Fl T M → Option V
  | .i k x => some (.i k x)
  | .b x => some (.b x)
  | .c u => some (anN u)
  | _ => none
section
variable {K : KT} {ρ : Env}
theorem apP {f : Fl K.T K.M} {v : V} (h : scF f = some v) : aap ρ v = flV f := by
  cases f <;> simp [scF] at h <;> subst h <;> first | rfl | exact aeG ..
theorem ara {f : Fl K.T K.M} {v : V} {u : Value} {k : Hp} (h : scF f = some v) (hp : pcS K f u k) : u = aap ρ v := by
  rw [aaI] at hp
  cases f <;> simp [scF] at h <;> subst h <;> simp only [aap, aeG] <;> exact hp
theorem afs {vss : List (List Value)} {sz : Nat} (hl : ∀ vs ∈ vss, vs.length = sz) : ∀ {i o : Nat} {vs : List Value} {v : Value}, vss[i]? = some vs → vs[o]? = some v → vss.flatten[i * sz + o]? = some v := by
  induction vss with
  | nil => intro i o vs v h; cases h
  | cons us vss ih =>
    intro i o vs v h h'
    have h0 := hl us (List.mem_cons_self ..)
    cases i with
    | zero =>
      simp at h; subst h
      rw [List.flatten_cons, Nat.zero_mul, Nat.zero_add, List.getElem?_append_left (List.getElem?_eq_some_iff.1 h').1]; exact h'
    | succ i =>
      rw [List.flatten_cons, List.getElem?_append_right (by rw [h0, Nat.add_mul]; omega)]
      have := ih (fun vs h => hl vs (List.mem_cons_of_mem _ h)) (i := i) (by simpa using h) h'
      rw [← this]; congr 1; rw [h0, Nat.add_mul]; omega
theorem aeg {pc : Fl K.T K.M → Value → aag} {c : Nat} : ∀ {xs : List (K.T c)} {vss : List (List Value)} {i : Nat} {x : K.T c} {vs : List Value}, xs[i]? = some x → vss[i]? = some vs →
    ∃ M, (abj K pc c xs vss).Perm (fsS pc (K.vw c x) vs ++ M) ∧ ∀ x' vs', (abj K pc c (xs.set i x') (vss.set i vs')).Perm (fsS pc (K.vw c x') vs' ++ M)
  | [], _, _, _, _, h, _ => by cases h
  | _ :: _, [], _, _, _, _, h => by cases h
  | g :: xs, u :: vss, 0, x, vs, h, h' => by
    simp at h h'; subst h h'
    exact ⟨abj K pc c xs vss, .refl _, fun _ _ => .refl _⟩
  | g :: xs, u :: vss, i + 1, x, vs, h, h' => by
    obtain ⟨M, h1, h2⟩ := aeg (pc := pc) (xs := xs) (vss := vss) (i := i) (by simpa using h) (by simpa using h')
    refine ⟨fsS pc (K.vw c g) u ++ M, ?_, fun x' vs' => ?_⟩
    · exact (h1.append_left _).trans (by rw [← List.append_assoc, ← List.append_assoc]; exact List.perm_append_comm.append_right _)
    · exact ((h2 x' vs').append_left _).trans (by rw [← List.append_assoc, ← List.append_assoc]; exact List.perm_append_comm.append_right _)
theorem akN {pc : Fl K.T K.M → Value → aag} {c : Nat} : ∀ {xs : List (K.T c)} {vss : List (List Value)} {L : List aag} {h : Hp}, aba (abj K pc c xs vss ++ L) h → xs.length = vss.length ∧ ∀ (i : Nat) (x : K.T c) (vs : List Value), xs[i]? = some x → vss[i]? = some vs → (K.vw c x).length = vs.length
  | [], [], _, _, _ => ⟨rfl, fun _ _ _ h => by cases h⟩
  | x :: xs, vs :: vss, L, h, s => by
    have s' : aba (fsS pc (K.vw c x) vs ++ (abj K pc c xs vss ++ L)) h := by simpa [abj] using s
    have h1 := aki s'
    obtain ⟨k1, k2, a, e, _, s2⟩ := aan.1 s'
    obtain ⟨h2, h3⟩ := akN s2
    refine ⟨by simp [h2], fun i y us hy hu => ?_⟩
    cases i with
    | zero => simp at hy hu; subst hy hu; exact h1
    | succ i => exact h3 i y us (by simpa using hy) (by simpa using hu)
  | [], _ :: _, _, _, ⟨_, _, _, _, hf, _⟩ => hf.elim
  | _ :: _, [], _, _, ⟨_, _, _, _, hf, _⟩ => hf.elim
theorem apT {pc : Fl K.T K.M → Value → aag} {c : Nat} {xs : List (K.T c)} {vss : List (List Value)} {L : List aag} {h : Hp} (s : aba (abj K pc c xs vss ++ L) h) : xs.length = vss.length ∧ ∀ vs ∈ vss, vs.length = K.sz c := by
  obtain ⟨h1, h2⟩ := akN s
  refine ⟨h1, fun vs hv => ?_⟩
  obtain ⟨i, hi⟩ := List.mem_iff_getElem?.1 hv
  have hlt : i < xs.length := by rw [h1]; exact (List.getElem?_eq_some_iff.1 hi).1
  rw [← h2 i _ vs (List.getElem?_eq_getElem hlt) hi, K.sz_ok]
theorem aeM {B : Nat} {w : World} {H : KT.H K} {X : List aag} {j c : Nat} {xs : List (K.T c)} (s : Sat B w (dH K ρ H ++ X)) (hg : get H j = some (.row c xs)) :
    (ρ.s j).n = xs.length ∧ ∃ vss : List (List Value), xs.length = vss.length ∧ (∀ vs ∈ vss, vs.length = K.sz c) ∧ Sat B w (acx (ρ.s j).a xs.length (ρ.s j).c (K.sz c) vss.flatten :: (abj K (pcS K) c xs vss ++ (dH K ρ (del H j) ++ X))) := by
  obtain ⟨h, Hh, k1, k2, a, e, ⟨h1', h2⟩, hL⟩ := s.imp (aaK (ρ := ρ) hg)
  rw [abL] at h2
  obtain ⟨vss, s2⟩ := h2
  have s3 : aba ((acx (ρ.s j).a xs.length (ρ.s j).c (K.sz c) vss.flatten :: abj K (pcS K) c xs vss) ++ (dH K ρ (del H j) ++ X)) h := aan.2 ⟨k1, k2, a, e, s2, hL⟩
  have h3 : xs.length = vss.length ∧ ∀ vs ∈ vss, vs.length = K.sz c := by
    obtain ⟨q1, q2, a', e', _, hq⟩ := s2
    exact apT (L := []) (by simpa using hq)
  exact ⟨h1', vss, h3.1, h3.2, h, Hh, s3⟩
theorem ajJ {B : Nat} {w : World} {H : KT.H K} {X : List aag} {id j sz : Nat} {i : Int} (s : Sat B w (dH K ρ H ++ X)) (hg : get H id = some (.elt j i sz)) : akC ρ id j sz i := (s.imp (aaK (ρ := ρ) hg)).pure
theorem abV {α : Type} {d : α} {xs : List α} {i : Int} (h : 0 ≤ i ∧ i < (xs.length : Int)) : xs[i.toNat]? = some (atL d xs i) := by
  have : i.toNat < xs.length := by omega
  simp [atL, this]
theorem akP {B : Nat} {w : World} {H : KT.H K} {X : List aag} {id j c o : Nat} {i : Int} {xs : List (K.T c)} {f : Fl K.T K.M} (s : Sat B w (dH K ρ H ++ X)) (hg : get H j = some (.row c xs)) (he : akC ρ id j (K.sz c) i) (hf : (K.vw c (atL (K.df c) xs i))[o]? = some f) :
    ∃ v, w.cell? ⟨(ρ.p id).1, (ρ.p id).2 + o, none⟩ = some v ∧ ∃ L, Sat B w (pcS K f v :: L) ∧ Ent (pcS K f v :: L) (aby K ρ j (.row c xs) :: (dH K ρ (del H j) ++ X)) := by
  obtain ⟨h1', vss, h2, h3, s2⟩ := aeM s hg
  obtain ⟨hi, b, o', hA, hp⟩ := he
  rw [h1'] at hi
  have hx := abV (d := K.df c) hi
  have hlt : i.toNat < vss.length := by omega
  have hvs : vss[i.toNat]? = some vss[i.toNat] := List.getElem?_eq_getElem hlt
  have hsz := h3 _ (List.getElem_mem hlt)
  have hol : o < vss[i.toNat].length := by rw [hsz, ← K.sz_ok c (atL (K.df c) xs i)]; exact (List.getElem?_eq_some_iff.1 hf).1
  have hov : (vss[i.toNat])[o]? = some (vss[i.toNat])[o] := List.getElem?_eq_getElem hol
  have hfl := afs h3 hvs hov
  obtain ⟨r1, r2, r3, r4⟩ := acG s2 (List.mem_cons_self ..)
  refine ⟨(vss[i.toNat])[o], ?_, ?_⟩
  · rcases r4 with ⟨r4, _⟩ | ⟨b2, o2, r4, r5⟩
    · rw [r4] at hA; cases hA
    · rw [r4] at hA
      cases hA
      rw [hp]
      have := r5 _ _ hfl
      rw [← Nat.add_assoc] at this
      exact this
  · obtain ⟨M, p1, _⟩ := aeg (pc := pcS K) hx hvs
    have p2 := (afp (pc := pcS K) hf hov).1
    have p3 := p1.trans (p2.append_right M)
    refine ⟨_, alY s2 p3, fun k hk => ?_⟩
    have s5 : aba ((acx (ρ.s j).a xs.length (ρ.s j).c (K.sz c) vss.flatten :: abj K (pcS K) c xs vss) ++ (dH K ρ (del H j) ++ X)) k := by
      refine abh ?_ hk
      exact (List.Perm.swap ..).trans (List.Perm.cons _ (p3.symm.append_right _))
    obtain ⟨j1, j2, a'', e'', g1, g2⟩ := aan.1 s5
    exact ⟨j1, j2, a'', e'', ⟨h1', abL.2 ⟨vss, g1⟩⟩, g2⟩
theorem ap0 {B : Nat} {w : World} {H : KT.H K} {X : List aag} {id j c o : Nat} {i : Int} {xs : List (K.T c)} {f : Fl K.T K.M} (s : Sat B w (dH K ρ H ++ X)) (hg : get H j = some (.ro c xs)) (he : akC ρ id j (K.sz c) i) (hf : (K.vw c (atL (K.df c) xs i))[o]? = some f) :
    w.cell? ⟨(ρ.p id).1, (ρ.p id).2 + o, none⟩ = some (flV f) := by
  obtain ⟨h, Hh, k1, k2, a, e, ⟨h1', h2⟩, hL⟩ := s.imp (aaK (ρ := ρ) hg)
  have s2 : Sat B w (roS (acJ K c) (K.sz c) (ρ.s j).a (ρ.s j).c xs :: (dH K ρ (del H j) ++ X)) := ⟨h, Hh, k1, k2, a, e, h2, hL⟩
  obtain ⟨hi, b, o', hA, hp⟩ := he
  rw [h1'] at hi
  have hlt : i.toNat < xs.length := by omega
  obtain ⟨b2, o2, hA2, _, hc⟩ := (aj3 s2 (List.mem_cons_self ..)).1.at_ hlt
  rw [hA] at hA2
  cases hA2
  have hx := abV (d := K.df c) hi
  have he2 : xs[i.toNat] = atL (K.df c) xs i := (List.getElem?_eq_some_iff.1 hx).2
  have := hc i.toNat hlt o (flV f) (by rw [he2]; unfold acJ; rw [List.getElem?_map, hf]; rfl)
  rw [hp]; exact this
end
section
variable {K : KT} {ρ : Env}
theorem amP {B : Nat} {w : World} {H : KT.H K} {X : Env → List aag} {id j c o n : Nat} {i : Int} {xs : List (K.T c)} {f : Fl K.T K.M} {V0 : V} {ch : Ch K.T K.M} (hop : opF K.vw n (.f f) = (V0, some ch)) (hn : ac2 H ≤ n) (hX : ∀ ρ', aat n ρ ρ' → X ρ = X ρ')
    (s : Sat B w (dH K ρ H ++ X ρ)) (hg : get H j = some (.row c xs)) (he : akC ρ id j (K.sz c) i) (hf : (K.vw c (atL (K.df c) xs i))[o]? = some f) :
    ∃ ρ', aat n ρ ρ' ∧ Sat B w (dH K ρ' ((n, ch) :: (j, .hole c xs i o V0) :: del H j) ++ X ρ') ∧ w.cell? ⟨(ρ.p id).1, (ρ.p id).2 + o, none⟩ = some (aap ρ' V0) := by
  obtain ⟨h1', vss, h2, h3, s2⟩ := aeM s hg
  obtain ⟨hi, b, o', hA, hp⟩ := he
  rw [h1'] at hi
  have hx := abV (d := K.df c) hi
  have hlt : i.toNat < vss.length := by omega
  have hvs : vss[i.toNat]? = some vss[i.toNat] := List.getElem?_eq_getElem hlt
  have hsz := h3 _ (List.getElem_mem hlt)
  have hol : o < vss[i.toNat].length := by rw [hsz, ← K.sz_ok c (atL (K.df c) xs i)]; exact (List.getElem?_eq_some_iff.1 hf).1
  have hov : (vss[i.toNat])[o]? = some (vss[i.toNat])[o] := List.getElem?_eq_getElem hol
  have hfl := afs h3 hvs hov
  obtain ⟨r1, r2, r3, r4⟩ := acG s2 (List.mem_cons_self ..)
  have hcell : w.cell? ⟨(ρ.p id).1, (ρ.p id).2 + o, none⟩ = some (vss[i.toNat])[o] := by
    rcases r4 with ⟨r4, _⟩ | ⟨b2, o2, r4, r5⟩
    · rw [r4] at hA; cases hA
    · rw [r4] at hA
      cases hA
      rw [hp]
      have := r5 _ _ hfl
      rw [← Nat.add_assoc] at this
      exact this
  obtain ⟨M, p1, p1'⟩ := aeg (pc := pcS K) hx hvs
  have p2 := (afp (pc := pcS K) hf hov).1
  have p3 := p1.trans (p2.append_right M)
  have s3 : Sat B w (pcS K f (vss[i.toNat])[o] :: ((acx (ρ.s j).a xs.length (ρ.s j).c (K.sz c) vss.flatten :: (fsS (pcS K) ((K.vw c (atL (K.df c) xs i)).eraseIdx o) ((vss[i.toNat]).eraseIdx o) ++ M)) ++ (dH K ρ (del H j) ++ X ρ))) := s2.perm (by
    refine (List.Perm.cons _ (p3.append_right _)).trans ?_
    exact List.Perm.swap ..)
  obtain ⟨hh, Hh, k1, k2, a, e, hA1, hL⟩ := s3
  have hfF : fS K ρ (.f f) (vss[i.toNat])[o] k1 := hA1
  obtain ⟨ρ', ha, hv, hd⟩ := amw (Nat.zero_le _) hfF
  rw [hop] at hv hd
  simp only at hv hd
  refine ⟨ρ', ha, ?_, by rw [hcell, hv]⟩
  have hgt := aer hg
  have hjn : j < n := Nat.lt_of_lt_of_le hgt.1 hn
  obtain ⟨q1, q2, a', e', g1, g2⟩ := aan.1 hL
  rw [abg ha (del H j) (Nat.le_trans acN hn), hX _ ha] at g2
  refine ⟨hh, Hh, k1, k2, a, e, hd, q1, q2, a', e', ⟨by rw [← (ha j hjn).2.1]; exact h1', ?_⟩, g2⟩
  rw [← (ha j hjn).2.1]
  refine ⟨atL (K.df c) xs i, vss, vss[i.toNat], M, ⟨hx, hvs, by rw [← hv]; exact hov⟩, fun x' => ?_, (List.getElem?_eq_some_iff.1 hf).1, g1⟩
  have := p1' x' vss[i.toNat]
  rw [aio hvs] at this
  exact this
theorem alD {B : Nat} {w : World} {id c o : Nat} {i : Int} {xs : List (K.T c)} {u : V} {f' : Fl K.T K.M} {x' : K.T c} {L : List aag} (hx' : K.vw c x' = (K.vw c (atL (K.df c) xs i)).set o f')
    (s : Sat B w (aby K ρ id (.hole c xs i o u) :: pcS K f' (aap ρ u) :: L)) : Sat B w ((fun h => (ρ.s id).n = (xs.set i.toNat x').length ∧ rwS K c (xs.set i.toNat x') (ρ.s id).a (ρ.s id).c h) :: L) := by
  obtain ⟨hh, Hh, k1, k2, a, e, ⟨h1, x, vss, vs, N, ⟨hx, hvs, hov⟩, hp, ho, hst⟩, hL⟩ := s
  obtain rfl : x = atL (K.df c) xs i := by unfold atL; rw [hx]; rfl
  have s2 : aba ((acx (ρ.s id).a xs.length (ρ.s id).c (K.sz c) vss.flatten :: (fsS (pcS K) ((K.vw c (atL (K.df c) xs i)).eraseIdx o) (vs.eraseIdx o) ++ N)) ++ (pcS K f' (aap ρ u) :: L)) hh := aan.2 ⟨k1, k2, a, e, hst, hL⟩
  have hf : (K.vw c (atL (K.df c) xs i))[o]? = some (K.vw c (atL (K.df c) xs i))[o] := List.getElem?_eq_getElem ho
  have p2 := (afp (pc := pcS K) hf hov).2 f' (aap ρ u)
  rw [aio hov, ← hx'] at p2
  have s3 : aba ((acx (ρ.s id).a xs.length (ρ.s id).c (K.sz c) vss.flatten :: abj K (pcS K) c (xs.set i.toNat x') vss) ++ L) hh := by
    refine abh ?_ s2
    refine List.Perm.cons _ ?_
    refine List.Perm.trans ?_ (((hp x').trans (p2.append_right N)).symm.append_right L)
    simp only [List.cons_append, List.append_assoc]
    exact (List.perm_middle (l₁ := fsS (pcS K) ((K.vw c (atL (K.df c) xs i)).eraseIdx o) (vs.eraseIdx o) ++ N)).trans (by rw [List.append_assoc])
  obtain ⟨j1, j2, a'', e'', g1, g2⟩ := aan.1 s3
  refine ⟨hh, Hh, j1, j2, a'', e'', ⟨by rw [List.length_set]; exact h1, abL.2 ⟨vss, ?_⟩⟩, g2⟩
  rw [List.length_set]; exact g1
end
section
variable (K : KT)
def opn (n : Nat) (H : KT.H K) (id o : Nat) : Option (Bool × KT.H K × V) :=
  match get H id with
  | some (.cells fs) => match fs[o]? with
    | some f => match opF K.vw n f with
      | (v, none) => some (false, H, v)
      | (v, some c) => match Nat.ble (ac2 H) n with
        | true => some (true, (n, c) :: (id, .cells (fs.set o (.v v))) :: del H id, v)
        | false => none
    | none => none
  | some (.elt j i sz) => match get H j with
    | some (.row c xs) => match Nat.beq sz (K.sz c) with
      | true => match (K.vw c (atL (K.df c) xs i))[o]? with
        | some (.ro c' ys) => match Nat.ble (ac2 H) n with
          | true => some (true, (n, .ro c' ys) :: (j, .row c xs) :: del H j, .sl n)
          | false => none
        | some f => match scF f with
          | some v => some (false, H, v)
          | none => match opF K.vw n (.f f) with
            | (v, some ch) => match Nat.ble (ac2 H) n with
              | true => some (true, (n, ch) :: (j, .hole c xs i o v) :: del H j, v)
              | false => none
            | (_, none) => none
        | none => none
      | false => none
    | some (.ro c xs) => match Nat.beq sz (K.sz c) with
      | true => match (K.vw c (atL (K.df c) xs i))[o]? with
        | some f => (scF f).map fun v => (false, H, v)
        | none => none
      | false => none
    | some (.rr c xss) => match Nat.beq sz 1 && Nat.beq o 0 && Nat.ble (ac2 H) n with
      | true => some (true, (n, .ro c (atL [] xss i)) :: (j, .rr c xss) :: del H j, .sl n)
      | false => none
    | _ => none
  | _ => none
end
section
variable {K : KT}
theorem ajt {n : Nat} {H H' : KT.H K} {id o : Nat} {v : V} {ch : Bool} (h : opn K n H id o = some (ch, H', v)) {ρ : Env} {B : Nat} {w : World} {X : Env → List aag} (hX : ch = true → ∀ ρ', aat n ρ ρ' → X ρ = X ρ') (s : Sat B w (dH K ρ H ++ X ρ)) :
    ∃ ρ', (aat n ρ ρ' ∧ (ch = false → ρ' = ρ)) ∧ Sat B w (dH K ρ' H' ++ X ρ') ∧ w.cell? ⟨(ρ.p id).1, (ρ.p id).2 + o, none⟩ = some (aap ρ' v) := by
  unfold opn at h
  split at h
  · rename_i fs hg
    split at h
    · rename_i f hf
      obtain ⟨vs, u, hu, hl, s2, hc⟩ := aoT s hg hf
      have p1 := (afp (pc := fS K ρ) hf hu).1
      have s3 := alY s2 p1
      split at h
      · rename_i v' hop
        cases h
        obtain ⟨hh, Hh, k1, k2, a, e, hA, hL⟩ := s3
        -- a value that brings nothing with it
        have key : u = aap ρ v := by
          cases f with
          | v x => cases hop; exact hA
          | f x =>
            have hp : pcS K x u k1 := hA
            cases x <;> simp only [opF, Prod.mk.injEq, reduceCtorEq, and_false, and_true] at hop <;> subst hop <;> rw [aaI] at hp <;> simp only [aap, aeG] <;> exact hp
        exact ⟨ρ, ⟨aat.refl _ _, fun _ => rfl⟩, s, by rw [hc, key]⟩
      · rename_i v' c hop
        split at h
        · rename_i hb
          cases h
          have hn : ac2 H ≤ n := Nat.le_of_ble_eq_true hb
          have hgt := aer hg
          obtain ⟨hh, Hh, k1, k2, a, e, hA, hL⟩ := s3
          have hft : ao8 f ≤ n := Nat.le_trans (alT hf) (Nat.le_trans hgt.2 hn)
          obtain ⟨ρ', ha, hv, hd⟩ := amw hft hA
          rw [hop] at hv hd
          simp only at hv hd
          refine ⟨ρ', ⟨ha, fun e => by cases e⟩, ?_, by rw [hc, hv]⟩
          have hid : id < n := Nat.lt_of_lt_of_le hgt.1 hn
          have e0 := ahG ha (fs.eraseIdx o) (vs.eraseIdx o) (Nat.le_trans ahj (Nat.le_trans hgt.2 hn))
          have e1 : dH K ρ (del H id) = dH K ρ' (del H id) := abg ha _ (Nat.le_trans acN hn)
          rw [e0, e1, (ha id hid).1, hX rfl _ ha] at hL
          have p2 := (afp (pc := fS K ρ') hf hu).2 (.v v) u
          rw [aio hu] at p2
          refine ⟨hh, Hh, k1, k2, a, e, hd, ?_⟩
          obtain ⟨q1, q2, a', e', hp, hq⟩ := hL
          have s6 : aba ((pts (ρ'.p id).1 (ρ'.p id).2 vs :: fsS (fS K ρ') (fs.set o (.v v)) vs) ++ (dH K ρ' (del H id) ++ X ρ')) k2 := by
            refine ⟨q1, q2, a', e', hp, abh (p2.symm.append_right _) ?_⟩
            exact (ahJ (L := fsS (fS K ρ') (fs.eraseIdx o) (vs.eraseIdx o) ++ (dH K ρ' (del H id) ++ X ρ')) hv) q2 hq
          obtain ⟨j1, j2, a'', e'', g1, g2⟩ := aan.1 s6
          exact ⟨j1, j2, a'', e'', ⟨vs, g1⟩, g2⟩
        · cases h
    · cases h
  · rename_i j i sz hj0
    have he0 := ajJ s hj0
    split at h
    · rename_i c xs hj
      split at h
      · rename_i hsz
        obtain rfl := Nat.eq_of_beq_eq_true hsz
        have he := he0
        split at h
        · rename_i c' ys hf
          split at h
          · rename_i hb
            cases h
            have hn : ac2 H ≤ n := Nat.le_of_ble_eq_true hb
            obtain ⟨u, hc, L, s2, back⟩ := akP s hj he hf
            have hgt := aer hj
            have hjn : j < n := Nat.lt_of_lt_of_le hgt.1 hn
            obtain ⟨hh, Hh, k1, k2, a, e, hA, hL⟩ := s2
            have hA' := hA
            rw [aaI] at hA'
            obtain ⟨A, cap, hu, hro⟩ := hA'
            have s3 : Sat B w (roS (acJ K c') (K.sz c') A cap ys :: L) := ⟨hh, Hh, k1, k2, a, e, hro, hL⟩
            have ha := abk ρ n ⟨A, ys.length, cap⟩
            have e1 : dH K ρ (del H j) = dH K (ρ.setS n ⟨A, ys.length, cap⟩) (del H j) := abg ha _ (Nat.le_trans acN hn)
            have e2 : aby K ρ j (.row c xs) = aby K (ρ.setS n ⟨A, ys.length, cap⟩) j (.row c xs) := acp ha hjn _ (Nat.le_trans hgt.2 hn)
            refine ⟨_, ⟨ha, fun e => by cases e⟩, ?_, by rw [hc, hu]; simp [aap, Env.setS]⟩
            have s4 := s3.imp al8
            refine s4.imp fun k hk => ?_
            refine aaE (fun k hk => ?_) (aa5 (fun k hk => ?_) hk)
            · exact ⟨by simp [Env.setS], by simpa [Env.setS] using hk⟩
            · have fold : ∀ q : Hp, roS (acJ K c') (K.sz c') A cap ys q → pcS K (.ro c' ys) u q := fun q hq => (aaI (K := K)).2 (show pcW K (obS K) (rwS K) (.ro c' ys) u q from ⟨A, cap, hu, hq⟩)
              have := back k (aaE fold hk)
              rw [e1, e2, hX rfl _ ha] at this
              exact this
          · cases h
        · rename_i f _ hf
          split at h
          · rename_i v' hv
            cases h
            obtain ⟨u, hc, L, ⟨hh, Hh, k1, k2, a, e, hA, hL⟩, _⟩ := akP s hj he hf
            exact ⟨ρ, ⟨aat.refl _ _, fun _ => rfl⟩, s, by rw [hc, ara hv hA]⟩
          · split at h
            · rename_i v' ch' hop
              split at h
              · rename_i hb
                cases h
                obtain ⟨ρ', ha, hs, hc⟩ := amP hop (Nat.le_of_ble_eq_true hb) (hX rfl) s hj he hf
                exact ⟨ρ', ⟨ha, fun e => by cases e⟩, hs, hc⟩
              · cases h
            · cases h
        · cases h
      · cases h
    · rename_i c xs hj
      split at h
      · rename_i hsz
        obtain rfl := Nat.eq_of_beq_eq_true hsz
        have he := he0
        split at h
        · rename_i f hf
          simp only [Option.map_eq_some_iff, Prod.mk.injEq] at h
          obtain ⟨v', hv, rfl, rfl, rfl⟩ := h
          exact ⟨ρ, ⟨aat.refl _ _, fun _ => rfl⟩, s, by rw [ap0 s hj he hf, apP hv]⟩
        · cases h
      · cases h
    · rename_i c xss hj
      split at h
      · rename_i hB
        cases h
        simp only [Bool.and_eq_true] at hB
        obtain ⟨⟨b1, b2⟩, b3⟩ := hB
        obtain rfl := Nat.eq_of_beq_eq_true b1
        obtain rfl := Nat.eq_of_beq_eq_true b2
        have hn : ac2 H ≤ n := Nat.le_of_ble_eq_true b3
        have hgt := aer hj
        have hjn : j < n := Nat.lt_of_lt_of_le hgt.1 hn
        obtain ⟨hi, b, o', hA, hp⟩ := he0
        obtain ⟨hh, Hh, k1, k2, a, e, ⟨h1', ps, h2⟩, hL⟩ := s.imp (aaK (ρ := ρ) hj)
        rw [h1'] at hi
        have hx := abV (d := ([] : List (K.T c))) hi
        have s2 : Sat B w (adp _ :: (dH K ρ (del H j) ++ X ρ)) := ⟨hh, Hh, k1, k2, a, e, h2, hL⟩
        obtain ⟨q, hq, _, b2, o2, hA2, _, hc⟩ := (ag9 s2 (List.mem_cons_self ..)).2 _ _ hx
        rw [hA] at hA2
        cases hA2
        have ha := abk ρ n ⟨q.1, (atL [] xss i).length, q.2⟩
        have e1 : dH K ρ (del H j) = dH K (ρ.setS n ⟨q.1, (atL [] xss i).length, q.2⟩) (del H j) := abg ha _ (Nat.le_trans acN hn)
        refine ⟨_, ⟨ha, fun e => by cases e⟩, ?_, by rw [hp, Nat.mul_one, Nat.add_zero, hc]; simp [aap, Env.setS]⟩
        have s3 := s2.imp aha
        refine s3.imp fun k hk => ?_
        rw [e1, hX rfl _ ha] at hk
        refine aaE (fun k hk => ?_) (aa5 (fun k hk => aaE (fun k hk => ?_) hk) hk)
        · refine ⟨by simp [Env.setS], ?_⟩
          have := acE (Ψ := fun u => Sl (acJ K c) (K.sz c) u u.heap.size q.1 (atL [] xss i) ∧ (atL [] xss i).length ≤ q.2) (fun u hu => by
            obtain ⟨q', hq', hs, _⟩ := hu.2 _ _ hx
            rw [hq] at hq'
            cases hq'
            exact hs) k hk
          have this2 : roS (acJ K c) (K.sz c) q.1 q.2 (atL [] xss i) k := this
          simpa [Env.setS] using this2
        · have hjn' : j ≠ n := by omega
          exact ⟨by simpa [Env.setS, hjn'] using h1', ps, by simpa [Env.setS, hjn'] using hk⟩
      · cases h
    · cases h
  · cases h
end
section
variable (K : KT)
def art : Nat → Nat → KT.H K → Nat → Nat → Option (Bool × KT.H K × List V)
  | 0, _, H, _, _ => some (false, H, [])
  | k + 1, n, H, id, o => match opn K n H id o with
    | some (ch, H', v) => match Nat.ble (aeY v) (n + 1) with
      | true => match Nat.blt id n with
        | true => match art k (n + 1) H' id (o + 1) with
          | some (ch', H'', l) => some (ch || ch', H'', v :: l)
          | none => none
        | false => none
      | false => none
    | none => none
end
section
variable {K : KT}
theorem aiE : ∀ {k n : Nat} {H H' : KT.H K} {id o : Nat} {l : List V} {ch : Bool} {ρ : Env} {B : Nat} {w : World} {X : Env → List aag}, (ch = true → ∀ ρ ρ', aat n ρ ρ' → X ρ = X ρ') → art K k n H id o = some (ch, H', l) → Sat B w (dH K ρ H ++ X ρ) →
    ∃ ρ', (aat n ρ ρ' ∧ (ch = false → ρ' = ρ)) ∧ Sat B w (dH K ρ' H' ++ X ρ') ∧ l.length = k ∧ ∀ j v, (aak ρ' l)[j]? = some v → w.cell? ⟨(ρ.p id).1, (ρ.p id).2 + o + j, none⟩ = some v
  | 0, n, H, H', id, o, l, ch, ρ, B, w, X, hX, h, s => by
    cases h
    exact ⟨ρ, ⟨aat.refl _ _, fun _ => rfl⟩, s, rfl, fun j v hj => by simp [aak] at hj⟩
  | k + 1, n, H, H', id, o, l, ch, ρ, B, w, X, hX, h, s => by
    unfold art at h
    split at h
    · rename_i ch1 H1 v h1
      split at h
      · rename_i ht
        split at h
        · rename_i hid
          split at h
          · rename_i ch2 H2 l2 h2
            cases h
            have ht' : aeY v ≤ n + 1 := Nat.le_of_ble_eq_true ht
            have hid' : id < n := Nat.le_of_ble_eq_true hid
            obtain ⟨ρ1, ⟨a1, e1⟩, s1, c1⟩ := ajt h1 (fun hc ρ' => hX (by rw [hc]; rfl) _ ρ') s
            obtain ⟨ρ2, ⟨a2, e2⟩, s2, hl, c2⟩ := aiE (fun hc ρ ρ' ha => hX (by rw [hc, Bool.or_true]) _ _ (ha.le (Nat.le_succ n))) h2 s1
            refine ⟨ρ2, ⟨a1.trans a2 (Nat.le_succ n), fun hc => ?_⟩, s2, by simp [hl], fun j u hj => ?_⟩
            · simp only [Bool.or_eq_false_iff] at hc
              rw [e2 hc.2, e1 hc.1]
            · cases j with
              | zero =>
                simp only [aak, List.getElem?_cons_zero, Option.some.injEq] at hj
                rw [← hj, ← aaX a2 v ht']
                exact c1
              | succ j =>
                simp only [aak, List.getElem?_cons_succ] at hj
                have := c2 j u hj
                rw [← (a1 id hid').1] at this
                rw [← this]; congr 2; omega
          · cases h
        · cases h
      · cases h
    · cases h
end
section
variable (K : KT)
def ast (P : Program) (R : aaM) (n : Nat) (Z H : KT.H K) (T : TypeId) (x : V) : Option (Nat × KT.H K × V) :=
  match x with
  | .ptr id o => match acT P T with
    | some none => match opn K n H id o with
      | some (false, H', v) => some (n, H', v)
      | some (true, H', v) => match Nat.ble (akI R) n && Nat.ble (ac2 Z) n with
        | true => some (n + 1, H', v)
        | false => none
      | none => none
    | some (some k) => match art K k n H id o with
      | some (false, H', l) => some (n, H', .agg l)
      | some (true, H', l) => match Nat.ble (akI R) n && Nat.ble (ac2 Z) n with
        | true => some (n + k, H', .agg l)
        | false => none
      | none => none
    | none => none
  | _ => none
end
section
variable {K : KT} {P : Program} {nt n B : Nat} {W : World} {R : aaM} {Z H : KT.H K} {nx : Nat → KT.H K → V → Prop}
theorem afa {w : World} {b o : Nat} {T : TypeId} {v : Value} (ht : acT P T = some none) (h : w.cell? ⟨b, o, none⟩ = some v) : (Instr.loadAt T (.pointer (some ⟨b, o, none⟩))).run P w = .ok v w :=
  afn (us := [v]) ht rfl (fun j u hj => by
    cases j with
    | zero => simp at hj; subst hj; exact h
    | succ j => simp at hj) rfl
theorem ai8 {o : Oper} {T : TypeId} {x : Operand} {u v : V} {n' : Nat} {H' : KT.H K} (ho : o.op = .load T x) (hx : evO R x = some u) (h : ast K P R n Z H T u = some (n', H', v)) (hn : nx n' H' v) : aco K P nt B W o R n Z H nx := fun F ρ a w s => by
  obtain ⟨d, op, ty, ps, af, g⟩ := o
  simp only at ho
  subst ho
  have ex := (aaA (ρ := ρ) hx).eval s.regs
  unfold ast at h
  split at h
  · rename_i id o'
    have fin : ∀ (ρ' : Env) (vv : V) (nn : Nat) (HH : KT.H K), n ≤ nn → aat n ρ ρ' → dR ρ' R = dR ρ R → Sat B w (dS K ρ' Z HH F) → nx nn HH vv → (Instr.loadAt T (.pointer (some ⟨(ρ.p id).1, (ρ.p id).2 + o', none⟩))).run P w = .ok (aap ρ' vv) w →
        afi P (fun (x : Nx K) w' => (aat n ρ x.ρ ∧ n ≤ x.n ∧ dR x.ρ R = dR ρ R ∧ nx x.n x.H x.v) ∧ Cls B W (dS K x.ρ Z x.H F) w') (fun x => aap x.ρ x.v) ((execOp a.eval ⟨d, .load T x, ty, ps, af, g⟩).run P w) := by
      intro ρ' vv nn HH h1 h2 h3 h4 h5 h6
      have : (execOp a.eval ⟨d, .load T x, ty, ps, af, g⟩).run P w = .ok (.value (aap ρ' vv)) w := by
        simp only [execOp, ex, aap]
        rw [aae h6]; rfl
      rw [this]
      exact ⟨⟨ρ', nn, HH, vv⟩, rfl, ⟨h2, h1, h3, h5⟩, s.below, s.lo, h4⟩
    split at h
    · rename_i hT
      split at h
      · rename_i h1
        cases h
        obtain ⟨ρ', ⟨ha, he⟩, s1, hc⟩ := ajt (X := tl K Z F) h1 (fun e => by cases e) s.sat
        obtain rfl := he rfl
        exact fin _ _ _ _ (Nat.le_refl _) ha rfl s1 hn (afa hT hc)
      · rename_i h1
        split at h
        · rename_i hR
          cases h
          simp only [Bool.and_eq_true] at hR
          obtain ⟨ρ', ⟨ha, he⟩, s1, hc⟩ := ajt (X := tl K Z F) h1 (fun _ ρ' ha => abB (Nat.le_of_ble_eq_true hR.2) ha) s.sat
          exact fin _ _ _ _ (Nat.le_succ _) ha (aa1 ha _ (Nat.le_of_ble_eq_true hR.1)).symm s1 hn (afa hT hc)
        · cases h
      · cases h
    · rename_i k hT
      split at h
      · rename_i h1
        cases h
        obtain ⟨ρ', ⟨ha, he⟩, s1, hl, hc⟩ := aiE (X := tl K Z F) (fun e => by cases e) h1 s.sat
        obtain rfl := he rfl
        exact fin _ _ _ _ (Nat.le_refl _) ha rfl s1 hn (afn hT (by rw [aaJ]; simpa using hl) hc rfl)
      · rename_i h1
        split at h
        · rename_i hR
          cases h
          simp only [Bool.and_eq_true] at hR
          obtain ⟨ρ', ⟨ha, he⟩, s1, hl, hc⟩ := aiE (X := tl K Z F) (fun _ _ _ ha => abB (Nat.le_of_ble_eq_true hR.2) ha) h1 s.sat
          exact fin _ _ _ _ (Nat.le_add_right ..) ha (aa1 ha _ (Nat.le_of_ble_eq_true hR.1)).symm s1 hn (afn hT (by rw [aaJ]; simpa using hl) hc rfl)
        · cases h
      · cases h
    · cases h
  · cases h
end
def aay : V → List V
  | .agg l => l
  | v => [v]
section
variable {K : KT}
def scV (H : KT.H K) : V → Bool
  | .agg _ => false
  | .tup _ => false
  | .c v => abA v
  | .mc id => match get H id with
    | some (.mach _) => true
    | _ => false
  | _ => true
def alw {T : Nat → Type} {M : Type} (fs : List (Fd T M)) (o : Nat) (us : List V) : List (Fd T M) := fs.take o ++ us.map .v ++ fs.drop (o + us.length)
theorem aiL {ρ : Env} : ∀ {us : List V} {o : Nat} {fs : List (Fd K.T K.M)} {vs : List Value} {L : List aag} {h : Hp}, o + us.length ≤ fs.length → fs.length = vs.length → aba (fsS (fS K ρ) fs vs ++ L) h →
    aba (fsS (fS K ρ) (alw fs o us) (vs.take o ++ aak ρ us ++ vs.drop (o + us.length)) ++ L) h
  | us, o + 1, [], vs, L, h, h1, _, _ => by simp at h1
  | us, o + 1, f :: fs, [], L, h, _, h2, _ => by simp at h2
  | us, o + 1, f :: fs, v :: vs, L, h, h1, h2, s => by
    have e1 : alw (f :: fs) (o + 1) us = f :: alw fs o us := by simp [alw, Nat.add_right_comm o 1]
    have e2 : (v :: vs).take (o + 1) ++ aak ρ us ++ (v :: vs).drop (o + 1 + us.length) = v :: (vs.take o ++ aak ρ us ++ vs.drop (o + us.length)) := by simp [Nat.add_right_comm o 1]
    rw [e1, e2]
    simp only [fsS, List.cons_append] at s ⊢
    exact aa5 (fun k hk => aiL (by simp at h1; omega) (by simpa using h2) hk) s
  | [], 0, fs, vs, L, h, _, _, s => by simpa [alw, aak] using s
  | u :: us, 0, [], vs, L, h, h1, _, _ => by simp at h1
  | u :: us, 0, f :: fs, [], L, h, _, h2, _ => by simp at h2
  | u :: us, 0, f :: fs, v :: vs, L, h, h1, h2, s => by
    have e1 : alw (f :: fs) 0 (u :: us) = .v u :: alw fs 0 us := by simp [alw]
    have e2 : (v :: vs).take 0 ++ aak ρ (u :: us) ++ (v :: vs).drop (0 + (u :: us).length) = aap ρ u :: (vs.take 0 ++ aak ρ us ++ vs.drop (0 + us.length)) := by simp [aak]
    rw [e1, e2]
    simp only [fsS, List.cons_append] at s ⊢
    have s1 := Ent.drop h s
    exact ahJ (p := aap ρ u = aap ρ u) rfl h (aiL (us := us) (o := 0) (by simp at h1 ⊢; omega) (by simpa using h2) s1)
theorem alX {ρ : Env} {H : KT.H K} {X : List aag} {B : Nat} {w : World} {v : V} (h : scV H v = true) (s : Sat B w (dH K ρ H ++ X)) : abA (aap ρ v) = true := by
  cases v <;> first | rfl | (cases h; done) | exact h | skip
  rename_i id
  simp only [scV] at h
  split at h
  · rename_i m hg
    obtain ⟨hh, Hh, k1, k2, a, e, hA, hL⟩ := s.imp (aaK (ρ := ρ) hg)
    have hA' : pcS K (.mach m) (ρ.v id) k1 := hA
    rw [aaI] at hA'
    simp only [pcW] at hA'
    simp only [aap]
    split at hA'
    · rw [hA']; rfl
    · obtain ⟨q, e', _⟩ := hA'; rw [e']; rfl
  · cases h
theorem ajc {v : Value} (h : abA v = true) : v.cells.toList = [v] := by cases v <;> simp [abA] at h <;> rfl
theorem agk {ρ : Env} {H : KT.H K} {X : List aag} {B : Nat} {w : World} {v : V} (h : (aay v).all (scV H) = true) (s : Sat B w (dH K ρ H ++ X)) : (aap ρ v).cells.toList = aak ρ (aay v) ∧ (aak ρ (aay v)).all abA = true := by
  have h2 : (aak ρ (aay v)).all abA = true := by
    rw [aaJ, List.all_map, List.all_eq_true]
    intro x hx
    exact alX (List.all_eq_true.1 h x hx) s
  refine ⟨?_, h2⟩
  cases v with
  | agg l => simp [aap, Value.cells, aay]
  | _ => exact ajc (by simpa [aay, aak] using h2)
end
section
variable (K : KT)
def ass (P : Program) (H : KT.H K) (T : TypeId) (x u : V) : Option (KT.H K) :=
  match x with
  | .ptr id o => match get H id with
    | some (.cells fs) => match Nat.beq (P.cellsOf T) (aay u).length && Nat.blt 0 (aay u).length && Nat.ble (o + (aay u).length) fs.length && (aay u).all (scV H) with
      | true => some ((id, .cells (alw fs o (aay u))) :: del H id)
      | false => none
    | _ => none
  | _ => none
end
section
variable {K : KT} {P : Program} {nt n B : Nat} {W : World} {R : aaM} {Z H : KT.H K} {nx : Nat → KT.H K → V → Prop}
theorem ahU {o : Oper} {T : TypeId} {x y : Operand} {u v : V} {H' : KT.H K} (ho : o.op = .store T x y) (hx : evO R x = some u) (hy : evO R y = some v) (h : ass K P H T u v = some H') (hn : nx n H' (.c undef)) : aco K P nt B W o R n Z H nx := fun F ρ a w s => by
  obtain ⟨d, op, ty, ps, af, g⟩ := o
  simp only at ho
  subst ho
  have ex := (aaA (ρ := ρ) hx).eval s.regs
  have ey := (aaA (ρ := ρ) hy).eval s.regs
  unfold ass at h
  split at h
  · rename_i id o'
    split at h
    · rename_i fs hg
      split at h
      · rename_i hB
        cases h
        simp only [Bool.and_eq_true] at hB
        obtain ⟨⟨⟨b1, b2⟩, b3⟩, b4⟩ := hB
        have b1' := Nat.eq_of_beq_eq_true b1
        have b2' : 0 < (aay v).length := Nat.le_of_ble_eq_true b2
        have b3' := Nat.le_of_ble_eq_true b3
        obtain ⟨hcl, hsc⟩ := agk b4 s.sat
        obtain ⟨vs, s2⟩ := adZ (s.sat.imp (aaK (ρ := ρ) hg))
        have hl := ae4 s2
        have hlen : (aak ρ (aay v)).length = (aay v).length := by rw [aaJ]; simp
        obtain ⟨w', hr, c1, c2, c3⟩ := agU (P := P) (T := T) (v := aap ρ v) (W := W) (o' := (ρ.p id).2 + o') (i := o') (k := (aay v).length) (us := aak ρ (aay v)) s2 s.below s.lo rfl b1' hlen b2' hcl hsc (by omega)
        have : (execOp a.eval ⟨d, .store T x y, ty, ps, af, g⟩).run P w = .ok .skip w' := by
          simp only [execOp, ex, ey, aap, Instr.storeAt, Instr.sureAddr]
          rw [aae (a := ()) (w' := w') (by rw [aae (a := (⟨(ρ.p id).1, (ρ.p id).2 + o', none⟩ : Addr)) (w' := w) rfl]; exact hr)]
          rfl
        rw [this]
        refine ⟨⟨ρ, n, _, .c undef⟩, rfl, ⟨aat.refl _ _, Nat.le_refl _, rfl, hn⟩, c1, c2, c3.imp fun h hk => ?_⟩
        obtain ⟨k1, k2, a', e', hp, hq⟩ := hk
        have hq2 := aiL (us := aay v) (o := o') b3' hl hq
        have s6 : aba ((pts (ρ.p id).1 (ρ.p id).2 (vs.take o' ++ aak ρ (aay v) ++ vs.drop (o' + (aay v).length)) :: fsS (fS K ρ) (alw fs o' (aay v)) (vs.take o' ++ aak ρ (aay v) ++ vs.drop (o' + (aay v).length))) ++ (dH K ρ (del H id) ++ tl K Z F ρ)) h := ⟨k1, k2, a', e', hp, hq2⟩
        obtain ⟨j1, j2, a'', e'', g1, g2⟩ := aan.1 s6
        exact ⟨j1, j2, a'', e'', ⟨_, g1⟩, g2⟩
      · cases h
    · cases h
  · cases h
end
section
variable (K : KT)
def aa9 (R : aaM) (n : Nat) (Z H : KT.H K) : Bool := Nat.ble (akI R) n && Nat.ble (ac2 Z) n && Nat.ble (ac2 H) n
def aqY (R : aaM) (n : Nat) (Z H : KT.H K) (vs : List V) : Option (Nat × KT.H K × V) :=
  match aa9 K R n Z H && Nat.ble (aeq vs) n with
  | true => some (n + 1, (n, .cells (vs.map .v)) :: H, .ptr n 0)
  | false => none
def ajV (P : Program) (T : TypeId) : Option (List V) := (akD P T).map fun z => z.cells.toList.map anN
end
section
variable {K : KT} {P : Program} {nt n B : Nat} {W : World} {R : aaM} {Z H : KT.H K} {nx : Nat → KT.H K → V → Prop}
theorem aeB {ρ : Env} : ∀ {vs : List V} {L : List aag} {h : Hp}, aba L h → aba (fsS (fS K ρ) (vs.map .v) (aak ρ vs) ++ L) h
  | [], _, _, s => s
  | v :: vs, L, h, s => ahJ (p := aap ρ v = aap ρ v) rfl h (aeB (vs := vs) s)
theorem amA {o : Oper} {vs : List V} {n' : Nat} {H' : KT.H K} {v : V} (h : aqY K R n Z H vs = some (n', H', v)) (hn : nx n' H' v)
    (ho : ∀ F ρ a w, Sta nt B W (dR ρ R) (dS K ρ Z H F) a w → ∃ u T, (execOp a.eval o).run P w = .ok (.value (.pointer (some ⟨w.heap.size, 0, none⟩))) (w.alloc (.cells u T)) ∧ u.toList = aak ρ vs) : aco K P nt B W o R n Z H nx := fun F ρ a w s => by
  unfold aqY at h
  split at h
  · rename_i hB
    cases h
    simp only [aa9, Bool.and_eq_true] at hB
    obtain ⟨⟨⟨b1, b0⟩, b2⟩, b3⟩ := hB
    have b1' := Nat.le_of_ble_eq_true b1
    have b0' := Nat.le_of_ble_eq_true b0
    have b2' := Nat.le_of_ble_eq_true b2
    have b3' := Nat.le_of_ble_eq_true b3
    obtain ⟨u, T, hr, hu⟩ := ho F ρ a w s
    rw [hr]
    have ha := aen ρ n (w.heap.size, 0)
    refine ⟨⟨ρ.setP n (w.heap.size, 0), n + 1, _, .ptr n 0⟩, by simp [aap, Env.setP], ⟨ha, Nat.le_succ _, (aa1 ha R b1').symm, hn⟩, ab4 s.below s.lo _, by simpa using Nat.le_succ_of_le s.lo, ?_⟩
    have s1 := s.sat.fresh (cs := u) (T := T) s.lo
    refine s1.imp fun h hk => ?_
    obtain ⟨k1, k2, a', e', hp, hq⟩ := hk
    rw [hu, ab3 ha vs b3'] at hp
    have hq' : aba (dS K (ρ.setP n (w.heap.size, 0)) Z H F) k2 := by unfold dS; rw [← abg ha H b2', ← abB b0' ha]; exact hq
    have s6 : aba ((pts w.heap.size 0 (aak (ρ.setP n (w.heap.size, 0)) vs) :: fsS (fS K (ρ.setP n (w.heap.size, 0))) (vs.map .v) (aak (ρ.setP n (w.heap.size, 0)) vs)) ++ dS K (ρ.setP n (w.heap.size, 0)) Z H F) h := ⟨k1, k2, a', e', hp, aeB hq'⟩
    obtain ⟨j1, j2, a'', e'', g1, g2⟩ := aan.1 s6
    exact ⟨j1, j2, a'', e'', ⟨_, by simpa [Env.setP] using g1⟩, g2⟩
  · cases h
theorem als {o : Oper} {T : TypeId} {vs : List V} {n' : Nat} {H' : KT.H K} {v : V} (ho : o.op = .alloc T) (hz : ajV P T = some vs) (h : aqY K R n Z H vs = some (n', H', v)) (hn : nx n' H' v) : aco K P nt B W o R n Z H nx := by
  refine amA h hn fun F ρ a w s => ?_
  obtain ⟨d, op, ty, ps, af, g⟩ := o
  simp only at ho
  subst ho
  simp only [ajV, Option.map_eq_some_iff] at hz
  obtain ⟨z, hz, rfl⟩ := hz
  refine ⟨z.cells, T, ?_, ?_⟩
  · simp only [execOp, Instr.alloc]
    rw [aae (a := Value.pointer (some ⟨w.heap.size, 0, none⟩)) (w' := w.alloc (.cells z.cells T)) (by rw [aae (ag2 hz)]; exact aae (ah5 T z))]
    rfl
  · rw [aaJ, List.map_map]
    have : (aap ρ ∘ anN) = id := by funext x; exact aeG ρ x
    rw [this, List.map_id]
theorem anV {o : Oper} {T : TypeId} {x : Operand} {u : V} {n' : Nat} {H' : KT.H K} {v : V} (ho : o.op = .box T x) (hx : evO R x = some u) (hs : (aay u).all (scV H) = true) (h : aqY K R n Z H (aay u) = some (n', H', v)) (hn : nx n' H' v) : aco K P nt B W o R n Z H nx := by
  refine amA h hn fun F ρ a w s => ?_
  obtain ⟨d, op, ty, ps, af, g⟩ := o
  simp only at ho
  subst ho
  have ex := (aaA (ρ := ρ) hx).eval s.regs
  refine ⟨(aap ρ u).cells, T, ?_, (agk hs s.sat).1⟩
  simp only [execOp, ex, Instr.box]
  rw [aae (a := Value.pointer (some ⟨w.heap.size, 0, none⟩)) (w' := w.alloc (.cells (aap ρ u).cells T)) (by rw [aae (ah5 T _)]; rfl)]
  rfl
end
section
variable {P : Program} {ops : Array Oper} {Q : Exit → Act → World → Prop} {Φ Ψ : World → Prop}
def aea (P : Program) (ops : Array Oper) (Q : Exit → Act → World → Prop) (Ob : Nat → World → World → Prop) : Nat → Array Bool → Act → World → Prop
  | 0, listed, a, w => Region.ready .any ops listed = [] ∧ NP Q .normal a w
  | f + 1, listed, a, w => (Region.ready .any ops listed = [] → NP Q .normal a w) ∧
    ∀ i ∈ Region.ready .any ops listed, wpOpIn (rf none) 0 P ops (NP Q) i (fun a' w' => Ob i w w' ∧ aea P ops Q Ob f (listed.setIfInBounds i true) a' w') a w
variable {Ob Ob' : Nat → World → World → Prop}
theorem ajP (h : ∀ j w w', Ob j w w' → Ob' j w w') : ∀ (f : Nat) (listed : Array Bool) (a : Act) (w : World), aea P ops Q Ob f listed a w → aea P ops Q Ob' f listed a w
  | 0, _, _, _, hh => hh
  | f + 1, _, _, w, hh => ⟨hh.1, fun i hi => wpOpIn_mono (fun a' w' ⟨h1, h2⟩ => ⟨h i w w' h1, ajP h f _ a' w' h2⟩) (hh.2 i hi)⟩
theorem alm : ∀ (f : Nat) (listed : Array Bool) (a : Act) (w : World), aea P ops Q Ob f listed a w → wpAnyIn (rf none) 0 P .any ops (NP Q) f listed a w
  | 0, _, _, _, hh => hh
  | f + 1, _, _, _, hh => ⟨hh.1, fun i hi => wpOpIn_mono (fun a' w' ⟨_, h2⟩ => alm f _ a' w' h2) (hh.2 i hi)⟩
def afh (ops : Array Oper) (listed : Array Bool) : Prop := ∀ k ok, ops[k]? = some ok → listed.getD k false = true → ∀ e ∈ ok.after, Region.binds .any e = true → listed.getD e.on false = true
theorem afh.set {listed : Array Bool} {i : Nat} (h : afh ops listed) (hi : i ∈ Region.ready .any ops listed) : afh ops (listed.setIfInBounds i true) := fun k ok hk hl e he hb => by
  by_cases hik : i = k
  · subst hik
    obtain ⟨_, o, ho, hall⟩ := mem_ready.1 hi
    rw [ho] at hk
    cases hk
    exact getD_set_true (hall e he hb)
  · rw [getD_set_ne false hik] at hl
    exact getD_set_true (h k ok hk hl e he hb)
theorem aks : afh ops (Array.replicate ops.size false) := fun k ok hk hl => by
  rw [Array.getD_eq_getD_getElem?, Array.getElem?_replicate] at hl
  split at hl <;> cases hl
inductive Desc (ops : Array Oper) (i : Nat) : Nat → Prop
  | self : Desc ops i i
  | step {k : Nat} {ok : Oper} {e : Edge} (h : ops[k]? = some ok) (he : e ∈ ok.after) (hb : Region.binds .any e = true) (hd : Desc ops i e.on) : Desc ops i k
theorem Desc.listed {listed : Array Bool} {i k : Nat} (hd : Desc ops i k) (hc : afh ops listed) (hk : listed.getD k false = true) : listed.getD i false = true := by
  induction hd with
  | self => exact hk
  | step h he hb _ ih => exact ih (hc _ _ h hk _ he hb)
theorem Desc.ready {listed : Array Bool} {i k : Nat} (hd : Desc ops i k) (hne : k ≠ i) (hc : afh ops listed) (hk : k ∈ Region.ready .any ops listed) : listed.getD i false = true := by
  cases hd with
  | self => exact absurd rfl hne
  | step h he hb hd =>
    obtain ⟨_, o, ho, hall⟩ := mem_ready.1 hk
    rw [ho] at h
    cases h
    exact hd.listed hc (hall _ he hb)
def acd (P : Program) (ops : Array Oper) (Φ : World → Prop) (o : Oper) (v : Value) (a : Act) : Prop :=
  ((Region.wanted o (yielded ops a.tmps) = true ∧ ∀ w, Φ w → (execOp a.eval o).run P w = .ok (.value v) w) ∨ (Region.wanted o (yielded ops a.tmps) = false ∧ v = undef)) ∧ ∀ w, o.about P w a.eval = none
theorem acd.of_same {o : Oper} {v : Value} {a a' : Act} (hy : acd P ops Φ o v a) (he : execOp a'.eval o = execOp a.eval o)
    (hw : Region.wanted o (yielded ops a'.tmps) = Region.wanted o (yielded ops a.tmps)) (hb : ∀ w, o.about P w a'.eval = o.about P w a.eval) : acd P ops Φ o v a' := by
  unfold acd at *
  rw [he, hw]
  exact ⟨hy.1, fun w => by rw [hb w]; exact hy.2 w⟩
theorem acd.wpOpIn {i : Nat} {o : Oper} {v : Value} {a : Act} (hi : ops[i]? = some o) (hy : acd P ops Φ o v a) {K : Act → World → Prop} {w : World} (hw : Φ w) (h : K (a.put o.dst v) w) : wpOpIn (rf none) 0 P ops (NP Q) i K a w := by
  unfold Go.wpOpIn
  simp only [hi]
  have hab : ∀ f, o.about P w a.eval = some f → (rf none).fn f := fun f hf => by rw [hy.2 w] at hf; cases hf
  rcases hy.1 with ⟨h1, hv⟩ | ⟨h1, rfl⟩
  · simp only [h1, if_true, Oper.wpIn, rf, Oper.semAt_none, hv w hw, Oper.uponIn]; exact ⟨hab, h⟩
  · simp only [h1, Bool.false_eq_true, if_false]; exact ⟨hab, h⟩
theorem asR {j : Nat} {oi oj : Oper} {v : Value} (hj : ops[j]? = some oj) (hap : oi.apart ops oj = true) (hsi : ∀ cs b, oi.op ≠ .select cs b) (hsj : ∀ cs b, oj.op ≠ .select cs b) {K : Act → World → Prop} {a : Act} {w : World}
    (hy : acd P ops Φ oi v a) (h : wpOpIn (rf none) 0 P ops (NP Q) j K (a.put oi.dst v) w) : wpOpIn (rf none) 0 P ops (NP Q) j (fun a' w' => acd P ops Φ oi v a' ∧ K (a'.put oi.dst v) w') a w := by
  obtain ⟨h1, h2, h3⟩ := Oper.apart_spec hap
  have keep : ∀ (a : Act), acd P ops Φ oi v a → ∀ u, acd P ops Φ oi v (a.put oj.dst u) := fun a hy u =>
    hy.of_same (execOp_put oi hsi a oj.dst u h3) (wanted_put oi a oj.dst u h3) (fun w => about_put oi w a oj.dst u h3)
  unfold Go.wpOpIn at *
  simp only [hj] at *
  rw [wanted_put oj a oi.dst v h1, about_put oj w a oi.dst v h1] at h
  by_cases hw : Region.wanted oj (yielded ops a.tmps) = true
  · rw [if_pos hw] at h ⊢
    unfold Oper.wpIn at *
    rw [about_put oj w a oi.dst v h1] at h
    refine ⟨h.1, ?_⟩
    replace h := h.2
    rw [show (rf none).round = none from rfl, Oper.semAt_none] at h ⊢
    rw [execOp_put oj hsj a oi.dst v h1] at h
    generalize (execOp a.eval oj).run P w = res at *
    cases res with
    | halt x w' => cases x <;> exact h
    | ok x w' =>
      cases x <;> simp only [Oper.uponIn] at h ⊢
      case value u => rw [Act.put_comm a v u h2] at h; exact ⟨keep a hy u, h⟩
      case skip => rw [Act.put_comm a v undef h2] at h; exact ⟨keep a hy _, h⟩
      case defer d =>
        have hd : acd P ops Φ oi v { a with defers := d :: a.defers } := hy.of_same rfl rfl (fun _ => rfl)
        rw [Act.put_defers, Act.put_comm _ v undef h2] at h
        exact ⟨keep _ hd _, h⟩
      case enter f args =>
        refine ⟨h.1, CallsIn.mono h.2 fun e w'' he => ?_⟩
        cases e with
        | panicked c => exact he
        | outgrown => exact he
        | returned u => simp only at he ⊢; rw [Act.put_comm a v u h2] at he; exact ⟨keep a hy u, he⟩
      case row row args => exact ⟨h.1, RowsIn.mono h.2 fun u w'' he => by rw [Act.put_comm a v u h2] at he; exact ⟨keep a hy u, he⟩⟩
      case round l f tmps assign body =>
        refine ⟨h.1, RoundIn.mono h.2 fun e w'' he => ?_⟩
        cases e with
        | panicked c => exact he
        | outgrown => exact he
        | returned u => simp only at he ⊢; rw [Act.put_comm a v u h2] at he; exact ⟨keep a hy u, he⟩
  · rw [if_neg hw] at h ⊢
    refine ⟨h.1, keep a hy _, ?_⟩
    have := h.2
    rwa [Act.put_comm a v undef h2] at this
theorem aii {i : Nat} {oi : Oper} {v : Value} (hi : ops[i]? = some oi) (hrefl : ∀ w, Ob i w w) (hsel : ∀ (j : Nat) (o : Oper) cs b, ops[j]? = some o → o.op ≠ .select cs b)
    (hstep : ∀ (listed : Array Bool) (j : Nat), afh ops listed → listed.getD i true = false → j ∈ Region.ready .any ops listed → j ≠ i → ∀ w w', Ob j w w' → Φ w → Φ w') :
    ∀ (f : Nat) (listed : Array Bool) (a : Act) (w : World), afh ops listed →
      (∀ j oj, ops[j]? = some oj → j ≠ i → listed.getD j true = false → (∀ e ∈ oj.after, Region.binds .any e = true → e.on ≠ i) → oi.apart ops oj = true) →
      i ∈ Region.ready .any ops listed → acd P ops Φ oi v a → Φ w →
      aea P ops Q Ob f (listed.setIfInBounds i true) (a.put oi.dst v) w → aea P ops Q Ob (f + 1) listed a w := by
  intro f
  induction f with
  | zero =>
    intro listed a w _ _ hr hy hw H
    refine ⟨fun h => (by rw [h] at hr; cases hr), fun j hj => ?_⟩
    by_cases hji : j = i
    · subst hji; exact hy.wpOpIn hi hw ⟨hrefl w, H⟩
    · have := ready_mono hj hji
      rw [H.1] at this
      cases this
  | succ f ih =>
    intro listed a w hcl hfree hr hy hw H
    refine ⟨fun h => (by rw [h] at hr; cases hr), fun j hj => ?_⟩
    by_cases hji : j = i
    · subst hji; exact hy.wpOpIn hi hw ⟨hrefl w, H⟩
    · have h1 := H.2 j (ready_mono hj hji)
      obtain ⟨hjun, oj, hoj, hall⟩ := mem_ready.1 hj
      have hun := (mem_ready.1 hr).1
      have hnot : ∀ e ∈ oj.after, Region.binds .any e = true → e.on ≠ i := fun e he hb heq => by
        have h1 := hall e he hb
        rw [heq, getD_both hun] at h1
        cases h1
      have h2 := asR hoj (hfree j oj hoj hji hjun hnot) (fun cs b => hsel i oi cs b hi) (fun cs b => hsel j oj cs b hoj) hy h1
      have hfree' : ∀ k ok, ops[k]? = some ok → k ≠ i → (listed.setIfInBounds j true).getD k true = false →
          (∀ e ∈ ok.after, Region.binds .any e = true → e.on ≠ i) → oi.apart ops ok = true := fun k ok hk hki hun hno => by
        refine hfree k ok hk hki ?_ hno
        by_cases hjk : j = k
        · subst hjk; exact hjun
        · rw [getD_set_ne true hjk] at hun; exact hun
      refine wpOpIn_mono (fun a' w' h3 => ?_) h2
      obtain ⟨hy', hw', h4⟩ := h3
      refine ⟨hw', ih (listed.setIfInBounds j true) a' w' (hcl.set hj) hfree' (ready_mono hr (Ne.symm hji)) hy' (hstep listed j hcl hun hj hji w w' hw' hw) ?_⟩
      rw [Array.setIfInBounds_comm _ _ hji]
      exact h4
theorem aff {i : Nat} {oi : Oper} {v : Value} {f : Nat} {listed : Array Bool} {a : Act} {w : World} (hi : ops[i]? = some oi) (hrefl : ∀ w, Ob i w w) (hB : ajZ ops listed i = true) (hcl : afh ops listed) (hy : acd P ops (fun _ => True) oi v a)
    (h : aea P ops Q Ob f (listed.setIfInBounds i true) (a.put oi.dst v) w) : aea P ops Q Ob (f + 1) listed a w := by
  simp only [ajZ, Bool.and_eq_true] at hB
  exact aii hi hrefl (Region.noSelect_spec hB.1.1) (fun _ _ _ _ _ _ _ _ _ h => h) f listed a w hcl (Region.free_spec hi hB.1.2) (by simpa using hB.2) hy trivial h
theorem anF {i : Nat} {oi : Oper} {v : Value} {f : Nat} {listed : Array Bool} {a : Act} {w : World} (hi : ops[i]? = some oi) (hrefl : ∀ w, Ob i w w) (hB : ajZ ops listed i = true) (hcl : afh ops listed) (hOb : ∀ j w w', Ob j w w' → ¬ Desc ops i j → Φ w → Φ w') (hy : acd P ops Φ oi v a) (hw : Φ w)
    (h : aea P ops Q Ob f (listed.setIfInBounds i true) (a.put oi.dst v) w) : aea P ops Q Ob (f + 1) listed a w := by
  simp only [ajZ, Bool.and_eq_true] at hB
  refine aii hi hrefl (Region.noSelect_spec hB.1.1) (fun l j hcl hun hj hji w w' ho => hOb j w w' ho fun hd => ?_) f listed a w hcl (Region.free_spec hi hB.1.2) (by simpa using hB.2) hy hw h
  have := hd.ready hji hcl hj
  rw [getD_both hun] at this
  cases this
def inN : List Nat → Nat → Bool
  | [], _ => false
  | x :: l, n => Nat.beq x n || inN l n
end
end
end Go.Proofs.Ytkmkhldmflebkaa
