/- Evaluation by itself, 4: what is held, by numbers; fields opened; cells read and written. No program occurs here. Evaluation by itself, 5: reading. No program occurs here. Evaluation by itself, 6: loads, stores, memory of its own. No program occurs here. Evaluation by itself: what lies open is put together again. No program occurs here. -/
import Derived.Test.YteapeojalliebaaGreatHqab
set_option linter.all false
namespace Go.Proofs.YteapeojalliebaaGreat
section
open Go Go.RowKit
inductive Fd (T : Nat → Type) (M : Type) where
  | v (x : V)
  | f (x : Fl T M)
inductive Ch (T : Nat → Type) (M : Type) where
  | cells (fs : List (Fd T M))
  | row (c : Nat) (xs : List (T c))
  | ro (c : Nat) (xs : List (T c))
  | rr (c : Nat) (xss : List (List (T c)))
  | elt (j : Nat) (i : Int) (sz : Nat)
  | arr (m sz : Nat) (vs : List V)
  | mach (m : M)
  | any (A : aad)
  | hole (c : Nat) (xs : List (T c)) (i : Int) (o : Nat) (u : V)
  | gap (c : Nat) (xs : List (T c)) (i : Int) (e : Nat)
  | slc (e m sz : Nat)
  | mp (c : Nat) (ag : Bool) (m : Int → Option (T c))
section
variable (K : KT)
abbrev KT.D := Fd K.T K.M
abbrev KT.C := Ch K.T K.M
abbrev KT.H := List (Nat × Ch K.T K.M)
def fS (ρ : Env) : Fd K.T K.M → Value → aad
  | .v x, v => anO (v = aat ρ x)
  | .f x, v => pcS K x v
def auS (ρ : Env) (id j sz : Nat) (i : Int) : Prop := (0 ≤ i ∧ i < ((ρ.s j).n : Int)) ∧ ∃ b o, (ρ.s j).a = some ⟨b, o, none⟩ ∧ ρ.p id = (b, o + i.toNat * sz)
def aHq (A : Option Addr) (n cap c : Nat) (xs : List (K.T c)) (i : Int) (q : Nat × Nat) : aad := fun h => ∃ (b o : Nat) (vss : List (List Value)) (spare : List Value) (N : List aad), (0 ≤ i ∧ i < (xs.length : Int)) ∧ (A = some ⟨b, o, none⟩ ∧ n = xs.length ∧ q = (b, o + i.toNat * K.sz c)) ∧ (vss.length = xs.length ∧ ∀ v ∈ vss, v.length = K.sz c) ∧
  (xs.length ≤ cap ∧ cap ≤ maxLen ∧ spare.length = (cap - xs.length) * K.sz c) ∧ (∀ x' vs', (acg K (pcS K) c (xs.set i.toNat x') (vss.set i.toNat vs')).Perm (fsS (pcS K) (K.vw c x') vs' ++ N)) ∧
  abH (pts b o (vss.flatten.take (i.toNat * K.sz c)) :: pts b (o + i.toNat * K.sz c + K.sz c) (vss.flatten.drop (i.toNat * K.sz c + K.sz c) ++ spare) :: N) h
def aG9 (A : Option Addr) (cap c : Nat) (xs : List (K.T c)) (i : Int) (o : Nat) (v : Value) : aad := fun h => ∃ (x : K.T c) (vss : List (List Value)) (vs : List Value) (N : List aad),
  (xs[i.toNat]? = some x ∧ vss[i.toNat]? = some vs ∧ vs[o]? = some v) ∧ (∀ x', (acg K (pcS K) c (xs.set i.toNat x') vss).Perm (fsS (pcS K) (K.vw c x') vs ++ N)) ∧ o < (K.vw c x).length ∧
  abH (ae4 A xs.length cap (K.sz c) vss.flatten :: (fsS (pcS K) ((K.vw c x).eraseIdx o) (vs.eraseIdx o) ++ N)) h
def acj (ρ : Env) (id : Nat) : Ch K.T K.M → aad
  | .cells fs => exL fun vs : List Value => pts (ρ.p id).1 (ρ.p id).2 vs :: fsS (fS K ρ) fs vs
  | .row c xs => fun h => (ρ.s id).n = xs.length ∧ rwS K c xs (ρ.s id).a (ρ.s id).c h
  | .ro c xs => fun h => (ρ.s id).n = xs.length ∧ roS (aeR K c) (K.sz c) (ρ.s id).a (ρ.s id).c xs h
  | .rr c xss => fun h => (ρ.s id).n = xss.length ∧ rrS (aeR K c) (K.sz c) (ρ.s id).a (ρ.s id).c xss h
  | .elt j i sz => anO (auS ρ id j sz i)
  | .arr m sz vs => fun h => (ρ.s id = ⟨some ⟨(ρ.p id).1, (ρ.p id).2, none⟩, m, m⟩ ∧ vs.length = m * sz ∧ m ≤ maxLen) ∧ pts (ρ.p id).1 (ρ.p id).2 (aag ρ vs) h
  | .mach m => pcS K (.mach m) (ρ.v id)
  | .mp c ag m => pcS K (.mp c ag m) (ρ.v id)
  | .any A => A
  | .hole c xs i o u => fun h => (ρ.s id).n = xs.length ∧ aG9 K (ρ.s id).a (ρ.s id).c c xs i o (aat ρ u) h
  | .gap c xs i e => aHq K (ρ.s id).a (ρ.s id).n (ρ.s id).c c xs i (ρ.p e)
  | .slc e m sz => fun h => ((ρ.s id).a = some ⟨(ρ.p e).1, (ρ.p e).2, none⟩ ∧ (ρ.s id).n = m ∧ m ≤ (ρ.s id).c ∧ (ρ.s id).c ≤ maxLen) ∧ ∃ spare : List Value, spare.length = ((ρ.s id).c - m) * sz ∧ pts (ρ.p e).1 ((ρ.p e).2 + m * sz) spare h
def dH (ρ : Env) (H : KT.H K) : List aad := H.map fun p => acj K ρ p.1 p.2
end
section
variable {T : Nat → Type} {M : Type}
def aBo : Fd T M → Nat
  | .v x => ai4 x
  | .f _ => 0
def ald : List (Fd T M) → Nat
  | [] => 0
  | f :: fs => mx (aBo f) (ald fs)
def au1 : Ch T M → Nat
  | .cells fs => ald fs
  | .elt j _ _ => j + 1
  | .arr _ _ vs => ahZ vs
  | .hole _ _ _ _ u => ai4 u
  | .gap _ _ _ e => e + 1
  | .slc e _ _ => e + 1
  | _ => 0
def afl : List (Nat × Ch T M) → Nat
  | [] => 0
  | p :: H => mx (mx (p.1 + 1) (au1 p.2)) (afl H)
theorem alP {a b n : Nat} (h : mx a b ≤ n) : a ≤ n ∧ b ≤ n := ⟨Nat.le_trans aD0 h, Nat.le_trans aBA h⟩
end
section
variable {K : KT} {ρ ρ' : Env} {n : Nat}
theorem aAP (h : aaw n ρ ρ') (f : Fd K.T K.M) (hn : aBo f ≤ n) : fS K ρ f = fS K ρ' f := by
  cases f with
  | v x => funext v; simp only [fS, aa9 h x hn]
  | f x => rfl
theorem apz (h : aaw n ρ ρ') : ∀ (fs : List (Fd K.T K.M)) (vs : List Value), ald fs ≤ n → fsS (fS K ρ) fs vs = fsS (fS K ρ') fs vs
  | [], [], _ => rfl
  | f :: fs, v :: vs, hn => by
    simp only [ald] at hn
    simp only [fsS, aAP h f (alP hn).1, apz h fs vs (alP hn).2]
  | [], _ :: _, _ => rfl
  | _ :: _, [], _ => rfl
theorem adS (h : aaw n ρ ρ') {id : Nat} (hid : id < n) (c : Ch K.T K.M) (hn : au1 c ≤ n) : acj K ρ id c = acj K ρ' id c := by
  cases c with
  | cells fs =>
    simp only [au1] at hn
    simp only [acj, (h id hid).1]
    congr 1
    funext vs
    rw [apz h fs vs hn]
  | row c xs => simp only [acj, (h id hid).2.1]
  | ro c xs => simp only [acj, (h id hid).2.1]
  | rr c xs => simp only [acj, (h id hid).2.1]
  | elt j i sz => simp only [au1] at hn; simp only [acj, auS, (h id hid).1, (h j (by omega)).2.1]
  | arr m sz vs => simp only [au1] at hn; simp only [acj, (h id hid).1, (h id hid).2.1, adO h vs hn]
  | mach m => simp only [acj, (h id hid).2.2]
  | mp c ag m => simp only [acj, (h id hid).2.2]
  | any A => rfl
  | hole c xs i o u => simp only [au1] at hn; simp only [acj, (h id hid).2.1, aa9 h u hn]
  | gap c xs i e => simp only [au1] at hn; simp only [acj, (h id hid).2.1, (h e (by omega)).1]
  | slc e m sz => simp only [au1] at hn; simp only [acj, (h id hid).2.1, (h e (by omega)).1]
theorem abP (h : aaw n ρ ρ') : ∀ H : KT.H K, afl H ≤ n → dH K ρ H = dH K ρ' H
  | [], _ => rfl
  | p :: H, hn => by
    simp only [afl] at hn
    have h1 := alP (alP hn).1
    show acj K ρ p.1 p.2 :: dH K ρ H = acj K ρ' p.1 p.2 :: dH K ρ' H
    rw [abP h H (alP hn).2, adS h h1.1 _ h1.2]
theorem arR {id : Nat} {L : List aad} : ∀ {H : KT.H K}, Ent (dH K ρ H ++ L) (dH K ρ (del H id) ++ L)
  | [] => Ent.refl
  | (t, c) :: H => by
    unfold del
    split
    · exact Ent.drop.trans arR
    · exact Ent.cons (fun _ h => h) arR
theorem aaN {id : Nat} {c : Ch K.T K.M} {L : List aad} : ∀ {H : KT.H K}, get H id = some c → Ent (dH K ρ H ++ L) (acj K ρ id c :: (dH K ρ (del H id) ++ L))
  | [], h => by cases h
  | (t, c') :: H, h => by
    unfold get at h
    unfold del
    split at h
    · rename_i e
      have e' : t = id := Nat.eq_of_beq_eq_true e
      simp only [Option.some.injEq] at h
      subst e' h
      exact Ent.cons (fun _ h => h) arR
    · have ih := aaN (L := L) (H := H) h
      exact (Ent.cons (A := acj K ρ t c') (fun _ h => h) ih).trans (Ent.perm (List.Perm.swap ..))
theorem aw5 {fs : List (Fd K.T K.M)} {i : Nat} {f : Fd K.T K.M} (h : fs[i]? = some f) : aBo f ≤ ald fs := by
  induction fs generalizing i with
  | nil => cases h
  | cons g fs ih =>
    cases i with
    | zero => simp at h; subst h; exact aD0
    | succ i => exact Nat.le_trans (ih (by simpa using h)) aBA
theorem ah0 {id : Nat} {c : Ch K.T K.M} : ∀ {H : KT.H K}, get H id = some c → id < afl H ∧ au1 c ≤ afl H
  | [], h => by cases h
  | (t, c') :: H, h => by
    unfold get at h
    have hm := alP (Nat.le_refl (afl ((t, c') :: H)))
    split at h
    · rename_i e
      have e' : t = id := Nat.eq_of_beq_eq_true e
      simp only [Option.some.injEq] at h
      subst e' h
      exact ⟨(alP hm.1).1, (alP hm.1).2⟩
    · have := ah0 h
      exact ⟨Nat.lt_of_lt_of_le this.1 hm.2, Nat.le_trans this.2 hm.2⟩
theorem afk {id : Nat} : ∀ {H : KT.H K}, afl (del H id) ≤ afl H
  | [] => Nat.le_refl _
  | (t, c) :: H => by
    unfold del
    split
    · exact Nat.le_trans afk aBA
    · exact ap4 ⟨aD0, Nat.le_trans afk aBA⟩
theorem aj7 {F : Type} {pc : F → Value → aad} : ∀ {fs : List F} {vs : List Value} {i : Nat} {f : F} {v : Value}, fs[i]? = some f → vs[i]? = some v →
    (fsS pc fs vs).Perm (pc f v :: fsS pc (fs.eraseIdx i) (vs.eraseIdx i)) ∧ ∀ f' v', (fsS pc (fs.set i f') (vs.set i v')).Perm (pc f' v' :: fsS pc (fs.eraseIdx i) (vs.eraseIdx i))
  | [], _, _, _, _, h, _ => by cases h
  | _ :: _, [], _, _, _, _, h => by cases h
  | g :: fs, u :: vs, 0, f, v, h, h' => by
    simp at h h'; subst h h'
    exact ⟨.refl _, fun _ _ => .refl _⟩
  | g :: fs, u :: vs, i + 1, f, v, h, h' => by
    obtain ⟨h1, h2⟩ := aj7 (pc := pc) (fs := fs) (vs := vs) (i := i) (by simpa using h) (by simpa using h')
    exact ⟨(h1.cons _).trans (.swap ..), fun f' v' => ((h2 f' v').cons _).trans (.swap ..)⟩
theorem aoJ {K : KT} : ∀ {fs : List (Fd K.T K.M)} {i : Nat}, ald (fs.eraseIdx i) ≤ ald fs
  | [], _ => Nat.le_refl _
  | _ :: _, 0 => aBA
  | _ :: _, _ + 1 => ap4 ⟨aD0, Nat.le_trans aoJ aBA⟩
theorem aqV {α : Type} {l : List α} {i : Nat} {a : α} (h : l[i]? = some a) : l.set i a = l := by
  obtain ⟨hlt, rfl⟩ := List.getElem?_eq_some_iff.1 h
  simp
theorem auv {F : Type} {pc : F → Value → aad} : ∀ {fs : List F} {vs : List Value} {L : List aad} {h : Hp}, abH (fsS pc fs vs ++ L) h → fs.length = vs.length
  | [], [], _, _, _ => rfl
  | _ :: fs, _ :: vs, L, _, ⟨_, _, _, _, _, s⟩ => by simp [auv s]
  | [], _ :: _, _, _, ⟨_, _, _, _, hf, _⟩ => hf.elim
  | _ :: _, [], _, _, ⟨_, _, _, _, hf, _⟩ => hf.elim
theorem ai9 {F : Type} {pc : F → Value → aad} {fs : List F} {vs : List Value} {B : Nat} {w : World} {A : aad} {L : List aad} (s : Sat B w (A :: (fsS pc fs vs ++ L))) : fs.length = vs.length := by
  obtain ⟨h, _, k1, k2, _, _, _, hL⟩ := s
  exact auv hL
theorem Sat.pure {B : Nat} {w : World} {p : Prop} {L : List aad} (s : Sat B w (anO p :: L)) : p := by
  obtain ⟨h, _, k1, k2, _, _, hA, _⟩ := s
  exact hA
theorem aBd {B : Nat} {w : World} {H : KT.H K} {X : List aad} {id o : Nat} {fs : List (Fd K.T K.M)} {f : Fd K.T K.M} (s : Sat B w (dH K ρ H ++ X)) (hg : get H id = some (.cells fs)) (hf : fs[o]? = some f) :
    ∃ vs v, vs[o]? = some v ∧ fs.length = vs.length ∧ Sat B w (pts (ρ.p id).1 (ρ.p id).2 vs :: (fsS (fS K ρ) fs vs ++ (dH K ρ (del H id) ++ X))) ∧ w.cell? ⟨(ρ.p id).1, (ρ.p id).2 + o, none⟩ = some v := by
  have s1 := s.imp (aaN (ρ := ρ) hg)
  obtain ⟨vs, s2⟩ := agY s1
  have hl := ai9 s2
  have ho : o < vs.length := by rw [← hl]; exact (List.getElem?_eq_some_iff.1 hf).1
  exact ⟨vs, vs[o], List.getElem?_eq_getElem ho, hl, s2, (s2.cell (List.getElem?_eq_getElem ho)).2.1⟩
theorem axm {B : Nat} {w : World} {A P : aad} {X Y L : List aad} (s : Sat B w (A :: (X ++ L))) (p : X.Perm (P :: Y)) : Sat B w (P :: A :: (Y ++ L)) :=
  s.perm ((List.Perm.cons _ (p.append_right L)).trans (List.Perm.swap ..))
end
def Env.setP (ρ : Env) (n : Nat) (q : Nat × Nat) : Env := { ρ with p := fun i => if i = n then q else ρ.p i }
def Env.setS (ρ : Env) (n : Nat) (q : Sle) : Env := { ρ with s := fun i => if i = n then q else ρ.s i }
def Env.setV (ρ : Env) (n : Nat) (q : Value) : Env := { ρ with v := fun i => if i = n then q else ρ.v i }
theorem ahR (ρ : Env) (n : Nat) (q : Nat × Nat) : aaw n ρ (ρ.setP n q) := fun k hk => ⟨by simp only [Env.setP]; rw [if_neg (by omega)], rfl, rfl⟩
theorem ab5 (ρ : Env) (n : Nat) (q : Sle) : aaw n ρ (ρ.setS n q) := fun k hk => ⟨rfl, by simp only [Env.setS]; rw [if_neg (by omega)], rfl⟩
theorem akg (ρ : Env) (n : Nat) (q : Value) : aaw n ρ (ρ.setV n q) := fun k hk => ⟨rfl, rfl, by simp only [Env.setV]; rw [if_neg (by omega)]⟩
section
variable {T : Nat → Type} {M : Type}
def opF (vw : (c : Nat) → T c → List (Fl T M)) (n : Nat) : Fd T M → V × Option (Ch T M)
  | .v x => (x, none)
  | .f (.i k x) => (.i k x, none)
  | .f (.b x) => (.b x, none)
  | .f (.c u) => (azu u, none)
  | .f (.own c x) => (.ptr n 0, some (.cells ((vw c x).map .f)))
  | .f (.row c xs) => (.sl n, some (.row c xs))
  | .f (.ro c xs) => (.sl n, some (.ro c xs))
  | .f (.rr c xs) => (.sl n, some (.rr c xs))
  | .f (.mach m) => (.mc n, some (.mach m))
  | .f (.mp c ag m) => (.mc n, some (.mp c ag m))
  | .f .o => (.mc n, some (.any fun _ => True))
end
section
variable {K : KT}
theorem apw (pc : Fl K.T K.M → Value → aad) (pc' : Fd K.T K.M → Value → aad) (h : ∀ x v, pc' (.f x) v = pc x v) : ∀ (l : List (Fl K.T K.M)) (vs : List Value), fsS pc' (l.map .f) vs = fsS pc l vs
  | [], [] => rfl
  | f :: fs, v :: vs => by simp only [List.map_cons, fsS, h, apw pc pc' h fs vs]
  | [], _ :: _ => rfl
  | _ :: _, [] => rfl
theorem aA6 (u : Value) : ai4 (azu u) = 0 := by cases u <;> rfl
theorem ax2 {ρ : Env} {n : Nat} {f : Fd K.T K.M} {v : Value} {k : Hp} (hn : aBo f ≤ n) (h : fS K ρ f v k) :
    ∃ ρ', aaw n ρ ρ' ∧ v = aat ρ' (opF K.vw n f).1 ∧ (match (opF K.vw n f).2 with | none => True | some c => acj K ρ' n c k) := by
  cases f with
  | v x => exact ⟨ρ, aaw.refl _ _, h, trivial⟩
  | f x =>
    have h2 : pcS K x v k := h
    rw [aaE] at h2
    cases x with
    | i k x => exact ⟨ρ, aaw.refl _ _, h2, trivial⟩
    | b x => exact ⟨ρ, aaw.refl _ _, h2, trivial⟩
    | c u => exact ⟨ρ, aaw.refl _ _, by rw [opF, aio]; exact h2, trivial⟩
    | own c x =>
      obtain ⟨q, e, ho⟩ := h2
      refine ⟨ρ.setP n q, ahR _ _ _, ?_, ?_⟩
      · rw [e]; simp [opF, aat, Env.setP]
      · rw [amU] at ho
        obtain ⟨vs, s⟩ := ho
        refine ⟨vs, ?_⟩
        simp only [Env.setP, if_true]
        rw [apw (pcS K) _ (fun x v => rfl)]
        exact s
    | row c xs =>
      obtain ⟨A, cap, e, ho⟩ := h2
      refine ⟨ρ.setS n ⟨A, xs.length, cap⟩, ab5 _ _ _, ?_, ?_, ?_⟩
      · rw [e]; simp [opF, aat, Env.setS]
      · simp [Env.setS]
      · simpa [Env.setS] using ho
    | ro c xs =>
      obtain ⟨A, cap, e, ho⟩ := h2
      refine ⟨ρ.setS n ⟨A, xs.length, cap⟩, ab5 _ _ _, ?_, ?_, ?_⟩
      · rw [e]; simp [opF, aat, Env.setS]
      · simp [Env.setS]
      · simpa [Env.setS] using ho
    | rr c xs =>
      obtain ⟨A, cap, e, ho⟩ := h2
      refine ⟨ρ.setS n ⟨A, xs.length, cap⟩, ab5 _ _ _, ?_, ?_, ?_⟩
      · rw [e]; simp [opF, aat, Env.setS]
      · simp [Env.setS]
      · simpa [Env.setS] using ho
    | mp c ag m =>
      refine ⟨ρ.setV n v, akg _ _ _, ?_, ?_⟩
      · simp [opF, aat, Env.setV]
      · simp only [opF, acj, Env.setV, if_true]
        exact h
    | mach m =>
      refine ⟨ρ.setV n v, akg _ _ _, ?_, ?_⟩
      · simp [opF, aat, Env.setV]
      · simp only [opF, acj, Env.setV, if_true]
        exact h
    | o => exact ⟨ρ.setV n v, akg _ _ _, by simp [opF, aat, Env.setV], trivial⟩
theorem ah6 {n : Nat} {f : Fd K.T K.M} (hn : aBo f ≤ n) : ai4 (opF K.vw n f).1 ≤ n + 1 ∧ (∀ c, (opF K.vw n f).2 = some c → au1 c ≤ n) := by
  cases f with
  | v x => exact ⟨Nat.le_succ_of_le hn, fun c h => by cases h⟩
  | f x =>
    cases x <;> refine ⟨?_, fun c h => ?_⟩ <;> simp only [opF, ai4, aA6] at * <;> first | omega | (cases h; done) | (cases h; simp only [au1]) <;> try omega
    · rename_i c x
      have : ∀ l : List (Fl K.T K.M), ald (l.map (Fd.f : Fl K.T K.M → Fd K.T K.M)) = 0 := fun l => by
        induction l with
        | nil => rfl
        | cons y l ih => simp only [List.map_cons, ald, ih, aBo]; rfl
      rw [this]; omega
end
structure Nx (K : KT) where
  ρ : Env
  n : Nat
  H : KT.H K
  v : V
def tl (K : KT) (Z : KT.H K) (F : aad) (ρ : Env) : List aad := dH K ρ Z ++ [F]
theorem acI {K : KT} {Z : KT.H K} {F : aad} {n : Nat} (h : afl Z ≤ n) {ρ ρ' : Env} (ha : aaw n ρ ρ') : tl K Z F ρ = tl K Z F ρ' := by unfold tl; rw [abP ha Z h]
abbrev dS (K : KT) (ρ : Env) (Z H : KT.H K) (F : aad) : List aad := dH K ρ H ++ tl K Z F ρ
def aea (K : KT) (P : Program) (nt B : Nat) (W : World) (o : Oper) (R : aa1) (n : Nat) (Z H : KT.H K) (nx : Nat → KT.H K → V → Prop) : Prop :=
  ∀ F ρ a w, Sta nt B W (dR ρ R) (dS K ρ Z H F) a w → ahY P (fun (x : Nx K) w' => (aaw n ρ x.ρ ∧ n ≤ x.n ∧ dR x.ρ R = dR ρ R ∧ nx x.n x.H x.v) ∧ Cls B W (dS K x.ρ Z x.H F) w') (fun x => aat x.ρ x.v) ((execOp a.eval o).run P w)
section
variable {K : KT} {r : Option Nat} {P : Program} {ops : Array Oper} {Q : Exit → Act → World → Prop} {nt n B : Nat} {W : World} {R : aa1} {Z H : KT.H K} {ρ : Env} {o : Oper} {rest : List Oper} {nx : Nat → KT.H K → V → Prop} {F : aad}
theorem aCw (h : aea K P nt B W o R n Z H nx) (hd : aCH nt o.dst = true) (hg : ajO ops (dR ρ R) o.guard true) (k : ∀ ρ' n' H' v, aaw n ρ ρ' → n ≤ n' → nx n' H' v → RT r P ops Q nt B W rest (dR ρ' (aq8 R o.dst v)) (dS K ρ' Z H' F)) : RT r P ops Q nt B W (o :: rest) (dR ρ R) (dS K ρ Z H F) := fun a w s => by
  unfold wpListIn
  rw [if_pos (hg.spec s.regs)]
  refine asn (h F ρ a w s) fun x w' ⟨⟨ha, hn, hR, hx⟩, hw'⟩ => ?_
  have s1 : Regs nt a (dR x.ρ R) := hR ▸ s.regs
  exact k x.ρ x.n x.H x.v ha hn hx _ _ (hw'.st (afp hd a s1))
def ayd (H : KT.H K) (id : Nat) : Option Nat := match get H id with
  | some (.row _ xs) => some xs.length
  | some (.ro _ xs) => some xs.length
  | some (.rr _ xs) => some xs.length
  | some (.hole _ xs _ _ _) => some xs.length
  | some (.gap _ xs _ _) => some xs.length
  | _ => none
theorem aid {H : KT.H K} {id m : Nat} (h : ayd H id = some m) {w : World} {X : List aad} (s : Sat B w (dH K ρ H ++ X)) : (ρ.s id).n = m := by
  unfold ayd at h
  split at h
  · rename_i hg
    cases h
    obtain ⟨hh, Hh, k1, k2, a, e, ⟨h1', h2⟩, hL⟩ := s.imp (aaN (ρ := ρ) hg)
    exact h1'
  · rename_i hg
    cases h
    obtain ⟨hh, Hh, k1, k2, a, e, ⟨h1', h2⟩, hL⟩ := s.imp (aaN (ρ := ρ) hg)
    exact h1'
  · rename_i hg
    cases h
    obtain ⟨hh, Hh, k1, k2, a, e, ⟨h1', h2⟩, hL⟩ := s.imp (aaN (ρ := ρ) hg)
    exact h1'
  · rename_i hg
    cases h
    obtain ⟨hh, Hh, k1, k2, a, e, ⟨h1', h2⟩, hL⟩ := s.imp (aaN (ρ := ρ) hg)
    exact h1'
  · rename_i hg
    cases h
    obtain ⟨hh, Hh, k1, k2, a, e, ⟨_, _, _, _, _, _, ⟨_, h1', _⟩, _⟩, hL⟩ := s.imp (aaN (ρ := ρ) hg)
    exact h1'
  · cases h
end
def atL {α : Type} (d : α) (xs : List α) (i : Int) : α := (xs[i.toNat]?).getD d
def scF {T : Nat → Type} {M : Type} : Fl T M → Option V
  | .i k x => some (.i k x)
  | .b x => some (.b x)
  | .c u => some (azu u)
  | _ => none
section
variable {K : KT} {ρ : Env}
theorem aCq {f : Fl K.T K.M} {v : V} (h : scF f = some v) : aat ρ v = flV f := by
  cases f <;> simp [scF] at h <;> subst h <;> first | rfl | exact aio ..
theorem aEs {f : Fl K.T K.M} {v : V} {u : Value} {k : Hp} (h : scF f = some v) (hp : pcS K f u k) : u = aat ρ v := by
  rw [aaE] at hp
  cases f <;> simp [scF] at h <;> subst h <;> simp only [aat, aio] <;> exact hp
theorem aka {vss : List (List Value)} {sz : Nat} (hl : ∀ vs ∈ vss, vs.length = sz) : ∀ {i o : Nat} {vs : List Value} {v : Value}, vss[i]? = some vs → vs[o]? = some v → vss.flatten[i * sz + o]? = some v := by
  induction vss with
  | nil => intro i o vs v h; cases h
  | cons us vss ih =>
    intro i o vs v h h'
    have h0 := hl us (List.mem_cons_self ..)
    cases i with
    | zero =>
      simp at h; subst h
      rw [List.flatten_cons, Nat.zero_mul, Nat.zero_add, List.getElem?_append_left (List.getElem?_eq_some_iff.1 h').1]; exact h'
    | succ i =>
      rw [List.flatten_cons, List.getElem?_append_right (by rw [h0, Nat.add_mul]; omega)]
      have := ih (fun vs h => hl vs (List.mem_cons_of_mem _ h)) (i := i) (by simpa using h) h'
      rw [← this]; congr 1; rw [h0, Nat.add_mul]; omega
theorem aht {pc : Fl K.T K.M → Value → aad} {c : Nat} : ∀ {xs : List (K.T c)} {vss : List (List Value)} {i : Nat} {x : K.T c} {vs : List Value}, xs[i]? = some x → vss[i]? = some vs →
    ∃ M, (acg K pc c xs vss).Perm (fsS pc (K.vw c x) vs ++ M) ∧ ∀ x' vs', (acg K pc c (xs.set i x') (vss.set i vs')).Perm (fsS pc (K.vw c x') vs' ++ M)
  | [], _, _, _, _, h, _ => by cases h
  | _ :: _, [], _, _, _, _, h => by cases h
  | g :: xs, u :: vss, 0, x, vs, h, h' => by
    simp at h h'; subst h h'
    exact ⟨acg K pc c xs vss, .refl _, fun _ _ => .refl _⟩
  | g :: xs, u :: vss, i + 1, x, vs, h, h' => by
    obtain ⟨M, h1, h2⟩ := aht (pc := pc) (xs := xs) (vss := vss) (i := i) (by simpa using h) (by simpa using h')
    refine ⟨fsS pc (K.vw c g) u ++ M, ?_, fun x' vs' => ?_⟩
    · exact (h1.append_left _).trans (by rw [← List.append_assoc, ← List.append_assoc]; exact List.perm_append_comm.append_right _)
    · exact ((h2 x' vs').append_left _).trans (by rw [← List.append_assoc, ← List.append_assoc]; exact List.perm_append_comm.append_right _)
theorem au7 {pc : Fl K.T K.M → Value → aad} {c : Nat} : ∀ {xs : List (K.T c)} {vss : List (List Value)} {L : List aad} {h : Hp}, abH (acg K pc c xs vss ++ L) h → xs.length = vss.length ∧ ∀ (i : Nat) (x : K.T c) (vs : List Value), xs[i]? = some x → vss[i]? = some vs → (K.vw c x).length = vs.length
  | [], [], _, _, _ => ⟨rfl, fun _ _ _ h => by cases h⟩
  | x :: xs, vs :: vss, L, h, s => by
    have s' : abH (fsS pc (K.vw c x) vs ++ (acg K pc c xs vss ++ L)) h := by simpa [acg] using s
    have h1 := auv s'
    obtain ⟨k1, k2, a, e, _, s2⟩ := aam.1 s'
    obtain ⟨h2, h3⟩ := au7 s2
    refine ⟨by simp [h2], fun i y us hy hu => ?_⟩
    cases i with
    | zero => simp at hy hu; subst hy hu; exact h1
    | succ i => exact h3 i y us (by simpa using hy) (by simpa using hu)
  | [], _ :: _, _, _, ⟨_, _, _, _, hf, _⟩ => hf.elim
  | _ :: _, [], _, _, ⟨_, _, _, _, hf, _⟩ => hf.elim
theorem aCu {pc : Fl K.T K.M → Value → aad} {c : Nat} {xs : List (K.T c)} {vss : List (List Value)} {L : List aad} {h : Hp} (s : abH (acg K pc c xs vss ++ L) h) : xs.length = vss.length ∧ ∀ vs ∈ vss, vs.length = K.sz c := by
  obtain ⟨h1, h2⟩ := au7 s
  refine ⟨h1, fun vs hv => ?_⟩
  obtain ⟨i, hi⟩ := List.mem_iff_getElem?.1 hv
  have hlt : i < xs.length := by rw [h1]; exact (List.getElem?_eq_some_iff.1 hi).1
  rw [← h2 i _ vs (List.getElem?_eq_getElem hlt) hi, K.sz_ok]
theorem aky {B : Nat} {w : World} {H : KT.H K} {X : List aad} {j c : Nat} {xs : List (K.T c)} (s : Sat B w (dH K ρ H ++ X)) (hg : get H j = some (.row c xs)) :
    (ρ.s j).n = xs.length ∧ ∃ vss : List (List Value), xs.length = vss.length ∧ (∀ vs ∈ vss, vs.length = K.sz c) ∧ Sat B w (ae4 (ρ.s j).a xs.length (ρ.s j).c (K.sz c) vss.flatten :: (acg K (pcS K) c xs vss ++ (dH K ρ (del H j) ++ X))) := by
  obtain ⟨h, Hh, k1, k2, a, e, ⟨h1', h2⟩, hL⟩ := s.imp (aaN (ρ := ρ) hg)
  rw [ade] at h2
  obtain ⟨vss, s2⟩ := h2
  have s3 : abH ((ae4 (ρ.s j).a xs.length (ρ.s j).c (K.sz c) vss.flatten :: acg K (pcS K) c xs vss) ++ (dH K ρ (del H j) ++ X)) h := aam.2 ⟨k1, k2, a, e, s2, hL⟩
  have h3 : xs.length = vss.length ∧ ∀ vs ∈ vss, vs.length = K.sz c := by
    obtain ⟨q1, q2, a', e', _, hq⟩ := s2
    exact aCu (L := []) (by simpa using hq)
  exact ⟨h1', vss, h3.1, h3.2, h, Hh, s3⟩
theorem ato {B : Nat} {w : World} {H : KT.H K} {X : List aad} {id j sz : Nat} {i : Int} (s : Sat B w (dH K ρ H ++ X)) (hg : get H id = some (.elt j i sz)) : auS ρ id j sz i := (s.imp (aaN (ρ := ρ) hg)).pure
theorem aep {α : Type} {d : α} {xs : List α} {i : Int} (h : 0 ≤ i ∧ i < (xs.length : Int)) : xs[i.toNat]? = some (atL d xs i) := by
  have : i.toNat < xs.length := by omega
  simp [atL, this]
theorem ava {B : Nat} {w : World} {H : KT.H K} {X : List aad} {id j c o : Nat} {i : Int} {xs : List (K.T c)} {f : Fl K.T K.M} (s : Sat B w (dH K ρ H ++ X)) (hg : get H j = some (.row c xs)) (he : auS ρ id j (K.sz c) i) (hf : (K.vw c (atL (K.df c) xs i))[o]? = some f) :
    ∃ v, w.cell? ⟨(ρ.p id).1, (ρ.p id).2 + o, none⟩ = some v ∧ ∃ L, Sat B w (pcS K f v :: L) ∧ Ent (pcS K f v :: L) (acj K ρ j (.row c xs) :: (dH K ρ (del H j) ++ X)) := by
  obtain ⟨h1', vss, h2, h3, s2⟩ := aky s hg
  obtain ⟨hi, b, o', hA, hp⟩ := he
  rw [h1'] at hi
  have hx := aep (d := K.df c) hi
  have hlt : i.toNat < vss.length := by omega
  have hvs : vss[i.toNat]? = some vss[i.toNat] := List.getElem?_eq_getElem hlt
  have hsz := h3 _ (List.getElem_mem hlt)
  have hol : o < vss[i.toNat].length := by rw [hsz, ← K.sz_ok c (atL (K.df c) xs i)]; exact (List.getElem?_eq_some_iff.1 hf).1
  have hov : (vss[i.toNat])[o]? = some (vss[i.toNat])[o] := List.getElem?_eq_getElem hol
  have hfl := aka h3 hvs hov
  obtain ⟨r1, r2, r3, r4⟩ := afo s2 (List.mem_cons_self ..)
  refine ⟨(vss[i.toNat])[o], ?_, ?_⟩
  · rcases r4 with ⟨r4, _⟩ | ⟨b2, o2, r4, r5⟩
    · rw [r4] at hA; cases hA
    · rw [r4] at hA
      cases hA
      rw [hp]
      have := r5 _ _ hfl
      rw [← Nat.add_assoc] at this
      exact this
  · obtain ⟨M, p1, _⟩ := aht (pc := pcS K) hx hvs
    have p2 := (aj7 (pc := pcS K) hf hov).1
    have p3 := p1.trans (p2.append_right M)
    refine ⟨_, axm s2 p3, fun k hk => ?_⟩
    have s5 : abH ((ae4 (ρ.s j).a xs.length (ρ.s j).c (K.sz c) vss.flatten :: acg K (pcS K) c xs vss) ++ (dH K ρ (del H j) ++ X)) k := by
      refine abF ?_ hk
      exact (List.Perm.swap ..).trans (List.Perm.cons _ (p3.symm.append_right _))
    obtain ⟨j1, j2, a'', e'', g1, g2⟩ := aam.1 s5
    exact ⟨j1, j2, a'', e'', ⟨h1', ade.2 ⟨vss, g1⟩⟩, g2⟩
theorem aCD {B : Nat} {w : World} {H : KT.H K} {X : List aad} {id j c o : Nat} {i : Int} {xs : List (K.T c)} {f : Fl K.T K.M} (s : Sat B w (dH K ρ H ++ X)) (hg : get H j = some (.ro c xs)) (he : auS ρ id j (K.sz c) i) (hf : (K.vw c (atL (K.df c) xs i))[o]? = some f) :
    w.cell? ⟨(ρ.p id).1, (ρ.p id).2 + o, none⟩ = some (flV f) := by
  obtain ⟨h, Hh, k1, k2, a, e, ⟨h1', h2⟩, hL⟩ := s.imp (aaN (ρ := ρ) hg)
  have s2 : Sat B w (roS (aeR K c) (K.sz c) (ρ.s j).a (ρ.s j).c xs :: (dH K ρ (del H j) ++ X)) := ⟨h, Hh, k1, k2, a, e, h2, hL⟩
  obtain ⟨hi, b, o', hA, hp⟩ := he
  rw [h1'] at hi
  have hlt : i.toNat < xs.length := by omega
  obtain ⟨b2, o2, hA2, _, hc⟩ := (asH s2 (List.mem_cons_self ..)).1.at_ hlt
  rw [hA] at hA2
  cases hA2
  have hx := aep (d := K.df c) hi
  have he2 : xs[i.toNat] = atL (K.df c) xs i := (List.getElem?_eq_some_iff.1 hx).2
  have := hc i.toNat hlt o (flV f) (by rw [he2]; unfold aeR; rw [List.getElem?_map, hf]; rfl)
  rw [hp]; exact this
end
section
variable {K : KT} {ρ : Env}
theorem ayj {B : Nat} {w : World} {H : KT.H K} {X : Env → List aad} {id j c o n : Nat} {i : Int} {xs : List (K.T c)} {f : Fl K.T K.M} {V0 : V} {ch : Ch K.T K.M} (hop : opF K.vw n (.f f) = (V0, some ch)) (hn : afl H ≤ n) (hX : ∀ ρ', aaw n ρ ρ' → X ρ = X ρ')
    (s : Sat B w (dH K ρ H ++ X ρ)) (hg : get H j = some (.row c xs)) (he : auS ρ id j (K.sz c) i) (hf : (K.vw c (atL (K.df c) xs i))[o]? = some f) :
    ∃ ρ', aaw n ρ ρ' ∧ Sat B w (dH K ρ' ((n, ch) :: (j, .hole c xs i o V0) :: del H j) ++ X ρ') ∧ w.cell? ⟨(ρ.p id).1, (ρ.p id).2 + o, none⟩ = some (aat ρ' V0) := by
  obtain ⟨h1', vss, h2, h3, s2⟩ := aky s hg
  obtain ⟨hi, b, o', hA, hp⟩ := he
  rw [h1'] at hi
  have hx := aep (d := K.df c) hi
  have hlt : i.toNat < vss.length := by omega
  have hvs : vss[i.toNat]? = some vss[i.toNat] := List.getElem?_eq_getElem hlt
  have hsz := h3 _ (List.getElem_mem hlt)
  have hol : o < vss[i.toNat].length := by rw [hsz, ← K.sz_ok c (atL (K.df c) xs i)]; exact (List.getElem?_eq_some_iff.1 hf).1
  have hov : (vss[i.toNat])[o]? = some (vss[i.toNat])[o] := List.getElem?_eq_getElem hol
  have hfl := aka h3 hvs hov
  obtain ⟨r1, r2, r3, r4⟩ := afo s2 (List.mem_cons_self ..)
  have hcell : w.cell? ⟨(ρ.p id).1, (ρ.p id).2 + o, none⟩ = some (vss[i.toNat])[o] := by
    rcases r4 with ⟨r4, _⟩ | ⟨b2, o2, r4, r5⟩
    · rw [r4] at hA; cases hA
    · rw [r4] at hA
      cases hA
      rw [hp]
      have := r5 _ _ hfl
      rw [← Nat.add_assoc] at this
      exact this
  obtain ⟨M, p1, p1'⟩ := aht (pc := pcS K) hx hvs
  have p2 := (aj7 (pc := pcS K) hf hov).1
  have p3 := p1.trans (p2.append_right M)
  have s3 : Sat B w (pcS K f (vss[i.toNat])[o] :: ((ae4 (ρ.s j).a xs.length (ρ.s j).c (K.sz c) vss.flatten :: (fsS (pcS K) ((K.vw c (atL (K.df c) xs i)).eraseIdx o) ((vss[i.toNat]).eraseIdx o) ++ M)) ++ (dH K ρ (del H j) ++ X ρ))) := s2.perm (by
    refine (List.Perm.cons _ (p3.append_right _)).trans ?_
    exact List.Perm.swap ..)
  obtain ⟨hh, Hh, k1, k2, a, e, hA1, hL⟩ := s3
  have hfF : fS K ρ (.f f) (vss[i.toNat])[o] k1 := hA1
  obtain ⟨ρ', ha, hv, hd⟩ := ax2 (Nat.zero_le _) hfF
  rw [hop] at hv hd
  simp only at hv hd
  refine ⟨ρ', ha, ?_, by rw [hcell, hv]⟩
  have hgt := ah0 hg
  have hjn : j < n := Nat.lt_of_lt_of_le hgt.1 hn
  obtain ⟨q1, q2, a', e', g1, g2⟩ := aam.1 hL
  rw [abP ha (del H j) (Nat.le_trans afk hn), hX _ ha] at g2
  refine ⟨hh, Hh, k1, k2, a, e, hd, q1, q2, a', e', ⟨by rw [← (ha j hjn).2.1]; exact h1', ?_⟩, g2⟩
  rw [← (ha j hjn).2.1]
  refine ⟨atL (K.df c) xs i, vss, vss[i.toNat], M, ⟨hx, hvs, by rw [← hv]; exact hov⟩, fun x' => ?_, (List.getElem?_eq_some_iff.1 hf).1, g1⟩
  have := p1' x' vss[i.toNat]
  rw [aqV hvs] at this
  exact this
theorem awz {B : Nat} {w : World} {id c o : Nat} {i : Int} {xs : List (K.T c)} {u : V} {f' : Fl K.T K.M} {x' : K.T c} {L : List aad} (hx' : K.vw c x' = (K.vw c (atL (K.df c) xs i)).set o f')
    (s : Sat B w (acj K ρ id (.hole c xs i o u) :: pcS K f' (aat ρ u) :: L)) : Sat B w ((fun h => (ρ.s id).n = (xs.set i.toNat x').length ∧ rwS K c (xs.set i.toNat x') (ρ.s id).a (ρ.s id).c h) :: L) := by
  obtain ⟨hh, Hh, k1, k2, a, e, ⟨h1, x, vss, vs, N, ⟨hx, hvs, hov⟩, hp, ho, hst⟩, hL⟩ := s
  obtain rfl : x = atL (K.df c) xs i := by unfold atL; rw [hx]; rfl
  have s2 : abH ((ae4 (ρ.s id).a xs.length (ρ.s id).c (K.sz c) vss.flatten :: (fsS (pcS K) ((K.vw c (atL (K.df c) xs i)).eraseIdx o) (vs.eraseIdx o) ++ N)) ++ (pcS K f' (aat ρ u) :: L)) hh := aam.2 ⟨k1, k2, a, e, hst, hL⟩
  have hf : (K.vw c (atL (K.df c) xs i))[o]? = some (K.vw c (atL (K.df c) xs i))[o] := List.getElem?_eq_getElem ho
  have p2 := (aj7 (pc := pcS K) hf hov).2 f' (aat ρ u)
  rw [aqV hov, ← hx'] at p2
  have s3 : abH ((ae4 (ρ.s id).a xs.length (ρ.s id).c (K.sz c) vss.flatten :: acg K (pcS K) c (xs.set i.toNat x') vss) ++ L) hh := by
    refine abF ?_ s2
    refine List.Perm.cons _ ?_
    refine List.Perm.trans ?_ (((hp x').trans (p2.append_right N)).symm.append_right L)
    simp only [List.cons_append, List.append_assoc]
    exact (List.perm_middle (l₁ := fsS (pcS K) ((K.vw c (atL (K.df c) xs i)).eraseIdx o) (vs.eraseIdx o) ++ N)).trans (by rw [List.append_assoc])
  obtain ⟨j1, j2, a'', e'', g1, g2⟩ := aam.1 s3
  refine ⟨hh, Hh, j1, j2, a'', e'', ⟨by rw [List.length_set]; exact h1, ade.2 ⟨vss, ?_⟩⟩, g2⟩
  rw [List.length_set]; exact g1
end
section
variable (K : KT)
def opn (n : Nat) (H : KT.H K) (id o : Nat) : Option (Bool × KT.H K × V) :=
  match get H id with
  | some (.cells fs) => match fs[o]? with
    | some f => match opF K.vw n f with
      | (v, none) => some (false, H, v)
      | (v, some c) => match Nat.ble (afl H) n with
        | true => some (true, (n, c) :: (id, .cells (fs.set o (.v v))) :: del H id, v)
        | false => none
    | none => none
  | some (.elt j i sz) => match get H j with
    | some (.row c xs) => match Nat.beq sz (K.sz c) with
      | true => match (K.vw c (atL (K.df c) xs i))[o]? with
        | some (.ro c' ys) => match Nat.ble (afl H) n with
          | true => some (true, (n, .ro c' ys) :: (j, .row c xs) :: del H j, .sl n)
          | false => none
        | some f => match scF f with
          | some v => some (false, H, v)
          | none => match opF K.vw n (.f f) with
            | (v, some ch) => match Nat.ble (afl H) n with
              | true => some (true, (n, ch) :: (j, .hole c xs i o v) :: del H j, v)
              | false => none
            | (_, none) => none
        | none => none
      | false => none
    | some (.ro c xs) => match Nat.beq sz (K.sz c) with
      | true => match (K.vw c (atL (K.df c) xs i))[o]? with
        | some f => (scF f).map fun v => (false, H, v)
        | none => none
      | false => none
    | some (.rr c xss) => match Nat.beq sz 1 && Nat.beq o 0 && Nat.ble (afl H) n with
      | true => some (true, (n, .ro c (atL [] xss i)) :: (j, .rr c xss) :: del H j, .sl n)
      | false => none
    | _ => none
  | _ => none
end
section
variable {K : KT}
theorem as3 {n : Nat} {H H' : KT.H K} {id o : Nat} {v : V} {ch : Bool} (h : opn K n H id o = some (ch, H', v)) {ρ : Env} {B : Nat} {w : World} {X : Env → List aad} (hX : ch = true → ∀ ρ', aaw n ρ ρ' → X ρ = X ρ') (s : Sat B w (dH K ρ H ++ X ρ)) :
    ∃ ρ', (aaw n ρ ρ' ∧ (ch = false → ρ' = ρ)) ∧ Sat B w (dH K ρ' H' ++ X ρ') ∧ w.cell? ⟨(ρ.p id).1, (ρ.p id).2 + o, none⟩ = some (aat ρ' v) := by
  unfold opn at h
  split at h
  · rename_i fs hg
    split at h
    · rename_i f hf
      obtain ⟨vs, u, hu, hl, s2, hc⟩ := aBd s hg hf
      have p1 := (aj7 (pc := fS K ρ) hf hu).1
      have s3 := axm s2 p1
      split at h
      · rename_i v' hop
        cases h
        obtain ⟨hh, Hh, k1, k2, a, e, hA, hL⟩ := s3
        -- a value that brings nothing with it
        have key : u = aat ρ v := by
          cases f with
          | v x => cases hop; exact hA
          | f x =>
            have hp : pcS K x u k1 := hA
            cases x <;> simp only [opF, Prod.mk.injEq, reduceCtorEq, and_false, and_true] at hop <;> subst hop <;> rw [aaE] at hp <;> simp only [aat, aio] <;> exact hp
        exact ⟨ρ, ⟨aaw.refl _ _, fun _ => rfl⟩, s, by rw [hc, key]⟩
      · rename_i v' c hop
        split at h
        · rename_i hb
          cases h
          have hn : afl H ≤ n := Nat.le_of_ble_eq_true hb
          have hgt := ah0 hg
          obtain ⟨hh, Hh, k1, k2, a, e, hA, hL⟩ := s3
          have hft : aBo f ≤ n := Nat.le_trans (aw5 hf) (Nat.le_trans hgt.2 hn)
          obtain ⟨ρ', ha, hv, hd⟩ := ax2 hft hA
          rw [hop] at hv hd
          simp only at hv hd
          refine ⟨ρ', ⟨ha, fun e => by cases e⟩, ?_, by rw [hc, hv]⟩
          have hid : id < n := Nat.lt_of_lt_of_le hgt.1 hn
          have e0 := apz ha (fs.eraseIdx o) (vs.eraseIdx o) (Nat.le_trans aoJ (Nat.le_trans hgt.2 hn))
          have e1 : dH K ρ (del H id) = dH K ρ' (del H id) := abP ha _ (Nat.le_trans afk hn)
          rw [e0, e1, (ha id hid).1, hX rfl _ ha] at hL
          have p2 := (aj7 (pc := fS K ρ') hf hu).2 (.v v) u
          rw [aqV hu] at p2
          refine ⟨hh, Hh, k1, k2, a, e, hd, ?_⟩
          obtain ⟨q1, q2, a', e', hp, hq⟩ := hL
          have s6 : abH ((pts (ρ'.p id).1 (ρ'.p id).2 vs :: fsS (fS K ρ') (fs.set o (.v v)) vs) ++ (dH K ρ' (del H id) ++ X ρ')) k2 := by
            refine ⟨q1, q2, a', e', hp, abF (p2.symm.append_right _) ?_⟩
            exact (apF (L := fsS (fS K ρ') (fs.eraseIdx o) (vs.eraseIdx o) ++ (dH K ρ' (del H id) ++ X ρ')) hv) q2 hq
          obtain ⟨j1, j2, a'', e'', g1, g2⟩ := aam.1 s6
          exact ⟨j1, j2, a'', e'', ⟨vs, g1⟩, g2⟩
        · cases h
    · cases h
  · rename_i j i sz hj0
    have he0 := ato s hj0
    split at h
    · rename_i c xs hj
      split at h
      · rename_i hsz
        obtain rfl := Nat.eq_of_beq_eq_true hsz
        have he := he0
        split at h
        · rename_i c' ys hf
          split at h
          · rename_i hb
            cases h
            have hn : afl H ≤ n := Nat.le_of_ble_eq_true hb
            obtain ⟨u, hc, L, s2, back⟩ := ava s hj he hf
            have hgt := ah0 hj
            have hjn : j < n := Nat.lt_of_lt_of_le hgt.1 hn
            obtain ⟨hh, Hh, k1, k2, a, e, hA, hL⟩ := s2
            have hA' := hA
            rw [aaE] at hA'
            obtain ⟨A, cap, hu, hro⟩ := hA'
            have s3 : Sat B w (roS (aeR K c') (K.sz c') A cap ys :: L) := ⟨hh, Hh, k1, k2, a, e, hro, hL⟩
            have ha := ab5 ρ n ⟨A, ys.length, cap⟩
            have e1 : dH K ρ (del H j) = dH K (ρ.setS n ⟨A, ys.length, cap⟩) (del H j) := abP ha _ (Nat.le_trans afk hn)
            have e2 : acj K ρ j (.row c xs) = acj K (ρ.setS n ⟨A, ys.length, cap⟩) j (.row c xs) := adS ha hjn _ (Nat.le_trans hgt.2 hn)
            refine ⟨_, ⟨ha, fun e => by cases e⟩, ?_, by rw [hc, hu]; simp [aat, Env.setS]⟩
            have s4 := s3.imp axw
            refine s4.imp fun k hk => ?_
            refine aaL (fun k hk => ?_) (abm (fun k hk => ?_) hk)
            · exact ⟨by simp [Env.setS], by simpa [Env.setS] using hk⟩
            · have fold : ∀ q : Hp, roS (aeR K c') (K.sz c') A cap ys q → pcS K (.ro c' ys) u q := fun q hq => (aaE (K := K)).2 (show pcW K (obS K) (rwS K) (.ro c' ys) u q from ⟨A, cap, hu, hq⟩)
              have := back k (aaL fold hk)
              rw [e1, e2, hX rfl _ ha] at this
              exact this
          · cases h
        · rename_i f _ hf
          split at h
          · rename_i v' hv
            cases h
            obtain ⟨u, hc, L, ⟨hh, Hh, k1, k2, a, e, hA, hL⟩, _⟩ := ava s hj he hf
            exact ⟨ρ, ⟨aaw.refl _ _, fun _ => rfl⟩, s, by rw [hc, aEs hv hA]⟩
          · split at h
            · rename_i v' ch' hop
              split at h
              · rename_i hb
                cases h
                obtain ⟨ρ', ha, hs, hc⟩ := ayj hop (Nat.le_of_ble_eq_true hb) (hX rfl) s hj he hf
                exact ⟨ρ', ⟨ha, fun e => by cases e⟩, hs, hc⟩
              · cases h
            · cases h
        · cases h
      · cases h
    · rename_i c xs hj
      split at h
      · rename_i hsz
        obtain rfl := Nat.eq_of_beq_eq_true hsz
        have he := he0
        split at h
        · rename_i f hf
          simp only [Option.map_eq_some_iff, Prod.mk.injEq] at h
          obtain ⟨v', hv, rfl, rfl, rfl⟩ := h
          exact ⟨ρ, ⟨aaw.refl _ _, fun _ => rfl⟩, s, by rw [aCD s hj he hf, aCq hv]⟩
        · cases h
      · cases h
    · rename_i c xss hj
      split at h
      · rename_i hB
        cases h
        simp only [Bool.and_eq_true] at hB
        obtain ⟨⟨b1, b2⟩, b3⟩ := hB
        obtain rfl := Nat.eq_of_beq_eq_true b1
        obtain rfl := Nat.eq_of_beq_eq_true b2
        have hn : afl H ≤ n := Nat.le_of_ble_eq_true b3
        have hgt := ah0 hj
        have hjn : j < n := Nat.lt_of_lt_of_le hgt.1 hn
        obtain ⟨hi, b, o', hA, hp⟩ := he0
        obtain ⟨hh, Hh, k1, k2, a, e, ⟨h1', ps, h2⟩, hL⟩ := s.imp (aaN (ρ := ρ) hj)
        rw [h1'] at hi
        have hx := aep (d := ([] : List (K.T c))) hi
        have s2 : Sat B w (ae1 _ :: (dH K ρ (del H j) ++ X ρ)) := ⟨hh, Hh, k1, k2, a, e, h2, hL⟩
        obtain ⟨q, hq, _, b2, o2, hA2, _, hc⟩ := (alS s2 (List.mem_cons_self ..)).2 _ _ hx
        rw [hA] at hA2
        cases hA2
        have ha := ab5 ρ n ⟨q.1, (atL [] xss i).length, q.2⟩
        have e1 : dH K ρ (del H j) = dH K (ρ.setS n ⟨q.1, (atL [] xss i).length, q.2⟩) (del H j) := abP ha _ (Nat.le_trans afk hn)
        refine ⟨_, ⟨ha, fun e => by cases e⟩, ?_, by rw [hp, Nat.mul_one, Nat.add_zero, hc]; simp [aat, Env.setS]⟩
        have s3 := s2.imp alT
        refine s3.imp fun k hk => ?_
        rw [e1, hX rfl _ ha] at hk
        refine aaL (fun k hk => ?_) (abm (fun k hk => aaL (fun k hk => ?_) hk) hk)
        · refine ⟨by simp [Env.setS], ?_⟩
          have := adK (Ψ := fun u => Sl (aeR K c) (K.sz c) u u.heap.size q.1 (atL [] xss i) ∧ (atL [] xss i).length ≤ q.2) (fun u hu => by
            obtain ⟨q', hq', hs, _⟩ := hu.2 _ _ hx
            rw [hq] at hq'
            cases hq'
            exact hs) k hk
          have this2 : roS (aeR K c) (K.sz c) q.1 q.2 (atL [] xss i) k := this
          simpa [Env.setS] using this2
        · have hjn' : j ≠ n := by omega
          exact ⟨by simpa [Env.setS, hjn'] using h1', ps, by simpa [Env.setS, hjn'] using hk⟩
      · cases h
    · cases h
  · cases h
end
section
variable (K : KT)
def aER : Nat → Nat → KT.H K → Nat → Nat → Option (Bool × KT.H K × List V)
  | 0, _, H, _, _ => some (false, H, [])
  | k + 1, n, H, id, o => match opn K n H id o with
    | some (ch, H', v) => match Nat.ble (ai4 v) (n + 1) with
      | true => match Nat.blt id n with
        | true => match aER k (n + 1) H' id (o + 1) with
          | some (ch', H'', l) => some (ch || ch', H'', v :: l)
          | none => none
        | false => none
      | false => none
    | none => none
end
section
variable {K : KT}
theorem arq : ∀ {k n : Nat} {H H' : KT.H K} {id o : Nat} {l : List V} {ch : Bool} {ρ : Env} {B : Nat} {w : World} {X : Env → List aad}, (ch = true → ∀ ρ ρ', aaw n ρ ρ' → X ρ = X ρ') → aER K k n H id o = some (ch, H', l) → Sat B w (dH K ρ H ++ X ρ) →
    ∃ ρ', (aaw n ρ ρ' ∧ (ch = false → ρ' = ρ)) ∧ Sat B w (dH K ρ' H' ++ X ρ') ∧ l.length = k ∧ ∀ j v, (aag ρ' l)[j]? = some v → w.cell? ⟨(ρ.p id).1, (ρ.p id).2 + o + j, none⟩ = some v
  | 0, n, H, H', id, o, l, ch, ρ, B, w, X, hX, h, s => by
    cases h
    exact ⟨ρ, ⟨aaw.refl _ _, fun _ => rfl⟩, s, rfl, fun j v hj => by simp [aag] at hj⟩
  | k + 1, n, H, H', id, o, l, ch, ρ, B, w, X, hX, h, s => by
    unfold aER at h
    split at h
    · rename_i ch1 H1 v h1
      split at h
      · rename_i ht
        split at h
        · rename_i hid
          split at h
          · rename_i ch2 H2 l2 h2
            cases h
            have ht' : ai4 v ≤ n + 1 := Nat.le_of_ble_eq_true ht
            have hid' : id < n := Nat.le_of_ble_eq_true hid
            obtain ⟨ρ1, ⟨a1, e1⟩, s1, c1⟩ := as3 h1 (fun hc ρ' => hX (by rw [hc]; rfl) _ ρ') s
            obtain ⟨ρ2, ⟨a2, e2⟩, s2, hl, c2⟩ := arq (fun hc ρ ρ' ha => hX (by rw [hc, Bool.or_true]) _ _ (ha.le (Nat.le_succ n))) h2 s1
            refine ⟨ρ2, ⟨a1.trans a2 (Nat.le_succ n), fun hc => ?_⟩, s2, by simp [hl], fun j u hj => ?_⟩
            · simp only [Bool.or_eq_false_iff] at hc
              rw [e2 hc.2, e1 hc.1]
            · cases j with
              | zero =>
                simp only [aag, List.getElem?_cons_zero, Option.some.injEq] at hj
                rw [← hj, ← aa9 a2 v ht']
                exact c1
              | succ j =>
                simp only [aag, List.getElem?_cons_succ] at hj
                have := c2 j u hj
                rw [← (a1 id hid').1] at this
                rw [← this]; congr 2; omega
          · cases h
        · cases h
      · cases h
    · cases h
end
section
variable (K : KT)
def aF0 (P : Program) (R : aa1) (n : Nat) (Z H : KT.H K) (T : TypeId) (x : V) : Option (Nat × KT.H K × V) :=
  match x with
  | .ptr id o => match aeV P T with
    | some none => match opn K n H id o with
      | some (false, H', v) => some (n, H', v)
      | some (true, H', v) => match Nat.ble (au0 R) n && Nat.ble (afl Z) n with
        | true => some (n + 1, H', v)
        | false => none
      | none => none
    | some (some k) => match aER K k n H id o with
      | some (false, H', l) => some (n, H', .agg l)
      | some (true, H', l) => match Nat.ble (au0 R) n && Nat.ble (afl Z) n with
        | true => some (n + k, H', .agg l)
        | false => none
      | none => none
    | none => none
  | _ => none
end
section
variable {K : KT} {P : Program} {nt n B : Nat} {W : World} {R : aa1} {Z H : KT.H K} {nx : Nat → KT.H K → V → Prop}
theorem ajq {w : World} {b o : Nat} {T : TypeId} {v : Value} (ht : aeV P T = some none) (h : w.cell? ⟨b, o, none⟩ = some v) : (Instr.loadAt T (.pointer (some ⟨b, o, none⟩))).run P w = .ok v w :=
  aj3 (us := [v]) ht rfl (fun j u hj => by
    cases j with
    | zero => simp at hj; subst hj; exact h
    | succ j => simp at hj) rfl
theorem asv {o : Oper} {T : TypeId} {x : Operand} {u v : V} {n' : Nat} {H' : KT.H K} (ho : o.op = .load T x) (hx : evO R x = some u) (h : aF0 K P R n Z H T u = some (n', H', v)) (hn : nx n' H' v) : aea K P nt B W o R n Z H nx := fun F ρ a w s => by
  obtain ⟨d, op, ty, ps, af, g⟩ := o
  simp only at ho
  subst ho
  have ex := (aaD (ρ := ρ) hx).eval s.regs
  unfold aF0 at h
  split at h
  · rename_i id o'
    have fin : ∀ (ρ' : Env) (vv : V) (nn : Nat) (HH : KT.H K), n ≤ nn → aaw n ρ ρ' → dR ρ' R = dR ρ R → Sat B w (dS K ρ' Z HH F) → nx nn HH vv → (Instr.loadAt T (.pointer (some ⟨(ρ.p id).1, (ρ.p id).2 + o', none⟩))).run P w = .ok (aat ρ' vv) w →
        ahY P (fun (x : Nx K) w' => (aaw n ρ x.ρ ∧ n ≤ x.n ∧ dR x.ρ R = dR ρ R ∧ nx x.n x.H x.v) ∧ Cls B W (dS K x.ρ Z x.H F) w') (fun x => aat x.ρ x.v) ((execOp a.eval ⟨d, .load T x, ty, ps, af, g⟩).run P w) := by
      intro ρ' vv nn HH h1 h2 h3 h4 h5 h6
      have : (execOp a.eval ⟨d, .load T x, ty, ps, af, g⟩).run P w = .ok (.value (aat ρ' vv)) w := by
        simp only [execOp, ex, aat]
        rw [aaa h6]; rfl
      rw [this]
      exact ⟨⟨ρ', nn, HH, vv⟩, rfl, ⟨h2, h1, h3, h5⟩, s.below, s.lo, h4⟩
    split at h
    · rename_i hT
      split at h
      · rename_i h1
        cases h
        obtain ⟨ρ', ⟨ha, he⟩, s1, hc⟩ := as3 (X := tl K Z F) h1 (fun e => by cases e) s.sat
        obtain rfl := he rfl
        exact fin _ _ _ _ (Nat.le_refl _) ha rfl s1 hn (ajq hT hc)
      · rename_i h1
        split at h
        · rename_i hR
          cases h
          simp only [Bool.and_eq_true] at hR
          obtain ⟨ρ', ⟨ha, he⟩, s1, hc⟩ := as3 (X := tl K Z F) h1 (fun _ ρ' ha => acI (Nat.le_of_ble_eq_true hR.2) ha) s.sat
          exact fin _ _ _ _ (Nat.le_succ _) ha (abE ha _ (Nat.le_of_ble_eq_true hR.1)).symm s1 hn (ajq hT hc)
        · cases h
      · cases h
    · rename_i k hT
      split at h
      · rename_i h1
        cases h
        obtain ⟨ρ', ⟨ha, he⟩, s1, hl, hc⟩ := arq (X := tl K Z F) (fun e => by cases e) h1 s.sat
        obtain rfl := he rfl
        exact fin _ _ _ _ (Nat.le_refl _) ha rfl s1 hn (aj3 hT (by rw [aaR]; simpa using hl) hc rfl)
      · rename_i h1
        split at h
        · rename_i hR
          cases h
          simp only [Bool.and_eq_true] at hR
          obtain ⟨ρ', ⟨ha, he⟩, s1, hl, hc⟩ := arq (X := tl K Z F) (fun _ _ _ ha => acI (Nat.le_of_ble_eq_true hR.2) ha) h1 s.sat
          exact fin _ _ _ _ (Nat.le_add_right ..) ha (abE ha _ (Nat.le_of_ble_eq_true hR.1)).symm s1 hn (aj3 hT (by rw [aaR]; simpa using hl) hc rfl)
        · cases h
      · cases h
    · cases h
  · cases h
end
def aaz : V → List V
  | .agg l => l
  | v => [v]
section
variable {K : KT}
def scV (H : KT.H K) : V → Bool
  | .agg _ => false
  | .tup _ => false
  | .c v => ado v
  | .mc id => match get H id with
    | some (.mach _) => true
    | some (.mp ..) => true
    | _ => false
  | _ => true
def azo {T : Nat → Type} {M : Type} (fs : List (Fd T M)) (o : Nat) (us : List V) : List (Fd T M) := fs.take o ++ us.map .v ++ fs.drop (o + us.length)
theorem arG {ρ : Env} : ∀ {us : List V} {o : Nat} {fs : List (Fd K.T K.M)} {vs : List Value} {L : List aad} {h : Hp}, o + us.length ≤ fs.length → fs.length = vs.length → abH (fsS (fS K ρ) fs vs ++ L) h →
    abH (fsS (fS K ρ) (azo fs o us) (vs.take o ++ aag ρ us ++ vs.drop (o + us.length)) ++ L) h
  | us, o + 1, [], vs, L, h, h1, _, _ => by simp at h1
  | us, o + 1, f :: fs, [], L, h, _, h2, _ => by simp at h2
  | us, o + 1, f :: fs, v :: vs, L, h, h1, h2, s => by
    have e1 : azo (f :: fs) (o + 1) us = f :: azo fs o us := by simp [azo, Nat.add_right_comm o 1]
    have e2 : (v :: vs).take (o + 1) ++ aag ρ us ++ (v :: vs).drop (o + 1 + us.length) = v :: (vs.take o ++ aag ρ us ++ vs.drop (o + us.length)) := by simp [Nat.add_right_comm o 1]
    rw [e1, e2]
    simp only [fsS, List.cons_append] at s ⊢
    exact abm (fun k hk => arG (by simp at h1; omega) (by simpa using h2) hk) s
  | [], 0, fs, vs, L, h, _, _, s => by simpa [azo, aag] using s
  | u :: us, 0, [], vs, L, h, h1, _, _ => by simp at h1
  | u :: us, 0, f :: fs, [], L, h, _, h2, _ => by simp at h2
  | u :: us, 0, f :: fs, v :: vs, L, h, h1, h2, s => by
    have e1 : azo (f :: fs) 0 (u :: us) = .v u :: azo fs 0 us := by simp [azo]
    have e2 : (v :: vs).take 0 ++ aag ρ (u :: us) ++ (v :: vs).drop (0 + (u :: us).length) = aat ρ u :: (vs.take 0 ++ aag ρ us ++ vs.drop (0 + us.length)) := by simp [aag]
    rw [e1, e2]
    simp only [fsS, List.cons_append] at s ⊢
    have s1 := Ent.drop h s
    exact apF (p := aat ρ u = aat ρ u) rfl h (arG (us := us) (o := 0) (by simp at h1 ⊢; omega) (by simpa using h2) s1)
theorem axl {ρ : Env} {H : KT.H K} {X : List aad} {B : Nat} {w : World} {v : V} (h : scV H v = true) (s : Sat B w (dH K ρ H ++ X)) : ado (aat ρ v) = true := by
  cases v <;> first | rfl | (cases h; done) | exact h | skip
  rename_i id
  simp only [scV] at h
  split at h
  · rename_i m hg
    obtain ⟨hh, Hh, k1, k2, a, e, hA, hL⟩ := s.imp (aaN (ρ := ρ) hg)
    have hA' : pcS K (.mach m) (ρ.v id) k1 := hA
    rw [aaE] at hA'
    simp only [pcW] at hA'
    simp only [aat]
    split at hA'
    · rw [hA']; rfl
    · obtain ⟨q, e', _⟩ := hA'; rw [e']; rfl
  · rename_i c ag m hg
    obtain ⟨hh, Hh, k1, k2, a, e, hA, hL⟩ := s.imp (aaN (ρ := ρ) hg)
    have hA' : pcS K (.mp c ag m) (ρ.v id) k1 := hA
    rw [aaE] at hA'
    obtain ⟨b, e', _⟩ := hA'
    simp only [aat]
    rw [e']; rfl
  · cases h
theorem asB {v : Value} (h : ado v = true) : v.cells.toList = [v] := by cases v <;> simp [ado] at h <;> rfl
theorem amh {ρ : Env} {H : KT.H K} {X : List aad} {B : Nat} {w : World} {v : V} (h : (aaz v).all (scV H) = true) (s : Sat B w (dH K ρ H ++ X)) : (aat ρ v).cells.toList = aag ρ (aaz v) ∧ (aag ρ (aaz v)).all ado = true := by
  have h2 : (aag ρ (aaz v)).all ado = true := by
    rw [aaR, List.all_map, List.all_eq_true]
    intro x hx
    exact axl (List.all_eq_true.1 h x hx) s
  refine ⟨?_, h2⟩
  cases v with
  | agg l => simp [aat, Value.cells, aaz]
  | _ => exact asB (by simpa [aaz, aag] using h2)
end
section
variable (K : KT)
def aFZ (P : Program) (H : KT.H K) (T : TypeId) (x u : V) : Option (KT.H K) :=
  match x with
  | .ptr id o => match get H id with
    | some (.cells fs) => match Nat.beq (P.cellsOf T) (aaz u).length && Nat.blt 0 (aaz u).length && Nat.ble (o + (aaz u).length) fs.length && (aaz u).all (scV H) with
      | true => some ((id, .cells (azo fs o (aaz u))) :: del H id)
      | false => none
    | _ => none
  | _ => none
end
section
variable {K : KT} {P : Program} {nt n B : Nat} {W : World} {R : aa1} {Z H : KT.H K} {nx : Nat → KT.H K → V → Prop}
theorem aqd {o : Oper} {T : TypeId} {x y : Operand} {u v : V} {H' : KT.H K} (ho : o.op = .store T x y) (hx : evO R x = some u) (hy : evO R y = some v) (h : aFZ K P H T u v = some H') (hn : nx n H' (.c undef)) : aea K P nt B W o R n Z H nx := fun F ρ a w s => by
  obtain ⟨d, op, ty, ps, af, g⟩ := o
  simp only at ho
  subst ho
  have ex := (aaD (ρ := ρ) hx).eval s.regs
  have ey := (aaD (ρ := ρ) hy).eval s.regs
  unfold aFZ at h
  split at h
  · rename_i id o'
    split at h
    · rename_i fs hg
      split at h
      · rename_i hB
        cases h
        simp only [Bool.and_eq_true] at hB
        obtain ⟨⟨⟨b1, b2⟩, b3⟩, b4⟩ := hB
        have b1' := Nat.eq_of_beq_eq_true b1
        have b2' : 0 < (aaz v).length := Nat.le_of_ble_eq_true b2
        have b3' := Nat.le_of_ble_eq_true b3
        obtain ⟨hcl, hsc⟩ := amh b4 s.sat
        obtain ⟨vs, s2⟩ := agY (s.sat.imp (aaN (ρ := ρ) hg))
        have hl := ai9 s2
        have hlen : (aag ρ (aaz v)).length = (aaz v).length := by rw [aaR]; simp
        obtain ⟨w', hr, c1, c2, c3⟩ := ano (P := P) (T := T) (v := aat ρ v) (W := W) (o' := (ρ.p id).2 + o') (i := o') (k := (aaz v).length) (us := aag ρ (aaz v)) s2 s.below s.lo rfl b1' hlen b2' hcl hsc (by omega)
        have : (execOp a.eval ⟨d, .store T x y, ty, ps, af, g⟩).run P w = .ok .skip w' := by
          simp only [execOp, ex, ey, aat, Instr.storeAt, Instr.sureAddr]
          rw [aaa (a := ()) (w' := w') (by rw [aaa (a := (⟨(ρ.p id).1, (ρ.p id).2 + o', none⟩ : Addr)) (w' := w) rfl]; exact hr)]
          rfl
        rw [this]
        refine ⟨⟨ρ, n, _, .c undef⟩, rfl, ⟨aaw.refl _ _, Nat.le_refl _, rfl, hn⟩, c1, c2, c3.imp fun h hk => ?_⟩
        obtain ⟨k1, k2, a', e', hp, hq⟩ := hk
        have hq2 := arG (us := aaz v) (o := o') b3' hl hq
        have s6 : abH ((pts (ρ.p id).1 (ρ.p id).2 (vs.take o' ++ aag ρ (aaz v) ++ vs.drop (o' + (aaz v).length)) :: fsS (fS K ρ) (azo fs o' (aaz v)) (vs.take o' ++ aag ρ (aaz v) ++ vs.drop (o' + (aaz v).length))) ++ (dH K ρ (del H id) ++ tl K Z F ρ)) h := ⟨k1, k2, a', e', hp, hq2⟩
        obtain ⟨j1, j2, a'', e'', g1, g2⟩ := aam.1 s6
        exact ⟨j1, j2, a'', e'', ⟨_, g1⟩, g2⟩
      · cases h
    · cases h
  · cases h
end
section
variable (K : KT)
def abG (R : aa1) (n : Nat) (Z H : KT.H K) : Bool := Nat.ble (au0 R) n && Nat.ble (afl Z) n && Nat.ble (afl H) n
def aDZ (R : aa1) (n : Nat) (Z H : KT.H K) (vs : List V) : Option (Nat × KT.H K × V) :=
  match abG K R n Z H && Nat.ble (ahZ vs) n with
  | true => some (n + 1, (n, .cells (vs.map .v)) :: H, .ptr n 0)
  | false => none
def atS (P : Program) (T : TypeId) : Option (List V) := (auU P T).map fun z => z.cells.toList.map azu
end
section
variable {K : KT} {P : Program} {nt n B : Nat} {W : World} {R : aa1} {Z H : KT.H K} {nx : Nat → KT.H K → V → Prop}
theorem aih {ρ : Env} : ∀ {vs : List V} {L : List aad} {h : Hp}, abH L h → abH (fsS (fS K ρ) (vs.map .v) (aag ρ vs) ++ L) h
  | [], _, _, s => s
  | v :: vs, L, h, s => apF (p := aat ρ v = aat ρ v) rfl h (aih (vs := vs) s)
theorem ax7 {o : Oper} {vs : List V} {n' : Nat} {H' : KT.H K} {v : V} (h : aDZ K R n Z H vs = some (n', H', v)) (hn : nx n' H' v)
    (ho : ∀ F ρ a w, Sta nt B W (dR ρ R) (dS K ρ Z H F) a w → ∃ u T, (execOp a.eval o).run P w = .ok (.value (.pointer (some ⟨w.heap.size, 0, none⟩))) (w.alloc (.cells u T)) ∧ u.toList = aag ρ vs) : aea K P nt B W o R n Z H nx := fun F ρ a w s => by
  unfold aDZ at h
  split at h
  · rename_i hB
    cases h
    simp only [abG, Bool.and_eq_true] at hB
    obtain ⟨⟨⟨b1, b0⟩, b2⟩, b3⟩ := hB
    have b1' := Nat.le_of_ble_eq_true b1
    have b0' := Nat.le_of_ble_eq_true b0
    have b2' := Nat.le_of_ble_eq_true b2
    have b3' := Nat.le_of_ble_eq_true b3
    obtain ⟨u, T, hr, hu⟩ := ho F ρ a w s
    rw [hr]
    have ha := ahR ρ n (w.heap.size, 0)
    refine ⟨⟨ρ.setP n (w.heap.size, 0), n + 1, _, .ptr n 0⟩, by simp [aat, Env.setP], ⟨ha, Nat.le_succ _, (abE ha R b1').symm, hn⟩, aeo s.below s.lo _, by simpa using Nat.le_succ_of_le s.lo, ?_⟩
    have s1 := s.sat.fresh (cs := u) (T := T) s.lo
    refine s1.imp fun h hk => ?_
    obtain ⟨k1, k2, a', e', hp, hq⟩ := hk
    rw [hu, adO ha vs b3'] at hp
    have hq' : abH (dS K (ρ.setP n (w.heap.size, 0)) Z H F) k2 := by unfold dS; rw [← abP ha H b2', ← acI b0' ha]; exact hq
    have s6 : abH ((pts w.heap.size 0 (aag (ρ.setP n (w.heap.size, 0)) vs) :: fsS (fS K (ρ.setP n (w.heap.size, 0))) (vs.map .v) (aag (ρ.setP n (w.heap.size, 0)) vs)) ++ dS K (ρ.setP n (w.heap.size, 0)) Z H F) h := ⟨k1, k2, a', e', hp, aih hq'⟩
    obtain ⟨j1, j2, a'', e'', g1, g2⟩ := aam.1 s6
    exact ⟨j1, j2, a'', e'', ⟨_, by simpa [Env.setP] using g1⟩, g2⟩
  · cases h
theorem awj {o : Oper} {T : TypeId} {vs : List V} {n' : Nat} {H' : KT.H K} {v : V} (ho : o.op = .alloc T) (hz : atS P T = some vs) (h : aDZ K R n Z H vs = some (n', H', v)) (hn : nx n' H' v) : aea K P nt B W o R n Z H nx := by
  refine ax7 h hn fun F ρ a w s => ?_
  obtain ⟨d, op, ty, ps, af, g⟩ := o
  simp only at ho
  subst ho
  simp only [atS, Option.map_eq_some_iff] at hz
  obtain ⟨z, hz, rfl⟩ := hz
  refine ⟨z.cells, T, ?_, ?_⟩
  · simp only [execOp, Instr.alloc]
    rw [aaa (a := Value.pointer (some ⟨w.heap.size, 0, none⟩)) (w' := w.alloc (.cells z.cells T)) (by rw [aaa (ala hz)]; exact aaa (aqt T z))]
    rfl
  · rw [aaR, List.map_map]
    have : (aat ρ ∘ azu) = id := by funext x; exact aio ρ x
    rw [this, List.map_id]
theorem azP {o : Oper} {T : TypeId} {x : Operand} {u : V} {n' : Nat} {H' : KT.H K} {v : V} (ho : o.op = .box T x) (hx : evO R x = some u) (hs : (aaz u).all (scV H) = true) (h : aDZ K R n Z H (aaz u) = some (n', H', v)) (hn : nx n' H' v) : aea K P nt B W o R n Z H nx := by
  refine ax7 h hn fun F ρ a w s => ?_
  obtain ⟨d, op, ty, ps, af, g⟩ := o
  simp only at ho
  subst ho
  have ex := (aaD (ρ := ρ) hx).eval s.regs
  refine ⟨(aat ρ u).cells, T, ?_, (amh hs s.sat).1⟩
  simp only [execOp, ex, Instr.box]
  rw [aaa (a := Value.pointer (some ⟨w.heap.size, 0, none⟩)) (w' := w.alloc (.cells (aat ρ u).cells T)) (by rw [aaa (aqt T _)]; rfl)]
  rfl
end
def am5 {T : Nat → Type} (c c' : Nat) (xs : List (T c)) : Option (List (T c')) := if h : c = c' then some (h ▸ xs) else none
def ayZ {T : Nat → Type} (c c' : Nat) (xs : List (List (T c))) : Option (List (List (T c'))) := if h : c = c' then some (h ▸ xs) else none
theorem ayY {T : Nat → Type} {c c' : Nat} {xs : List (List (T c))} {ys : List (List (T c'))} (h : ayZ c c' xs = some ys) : ∃ e : c = c', ys = e ▸ xs := by
  unfold ayZ at h
  split at h
  · rename_i e; cases h; exact ⟨e, rfl⟩
  · cases h
theorem agq {T : Nat → Type} {c c' : Nat} {xs : List (T c)} {ys : List (T c')} (h : am5 c c' xs = some ys) : ∃ e : c = c', ys = e ▸ xs := by
  unfold am5 at h
  split at h
  · rename_i e; cases h; exact ⟨e, rfl⟩
  · cases h
def aDP {T : Nat → Type} (c c' : Nat) (m : Int → Option (T c)) : Option (Int → Option (T c')) := if h : c = c' then some (h ▸ m) else none
theorem aBf {T : Nat → Type} {c c' : Nat} {m : Int → Option (T c)} {m' : Int → Option (T c')} (h : aDP c c' m = some m') : ∃ e : c = c', m' = e ▸ m := by
  unfold aDP at h
  split at h
  · rename_i e; cases h; exact ⟨e, rfl⟩
  · cases h
def amj {α β : Type} (h : α = β) (xs : List α) : List β := (congrArg List h) ▸ xs
theorem aeU {α β : Type} (h : α = β) (xs : List α) : amj h xs = xs.map (fun x => h ▸ x) := by subst h; simp [amj]
def oB : V → Bool
  | .ifc _ _ => true
  | .ptr _ _ => true
  | .sl _ => true
  | .c u => ado u
  | _ => false
theorem aGr {ρ : Env} {v : V} (h : oB v = true) : ado (aat ρ v) = true := by
  cases v <;> first | rfl | (cases h; done) | exact h
section
variable (K : KT)
def aGa (own : KT.H K → (c : Nat) → List (Fd K.T K.M) → Option (K.T c × KT.H K)) (H : KT.H K) (e : Fl K.T K.M) (v : V) : Option (Fl K.T K.M × KT.H K) :=
  match e with
  | .i k _ => match aj6 v with
    | some (k', x, _) => match aqY k' k with
      | true => some (.i k x, H)
      | false => none
    | none => none
  | .b _ => match ar5 v with
    | some x => some (.b x, H)
    | none => none
  | .c _ => none
  | .ro c _ => match v with
    | .sl id => match get H id with
      | some (.ro c' xs) => match am5 c' c xs with
        | some ys => some (.ro c ys, H)
        | none => none
      | some (.row c' xs) => match am5 c' c xs with
        | some ys => match K.pl c' && Nat.blt 0 (K.sz c') with
          | true => some (.ro c ys, (id, .ro c' xs) :: del H id)
          | false => none
        | none => none
      | _ => none
    | .c (.slice none 0 0) => some (.ro c [], H)
    | _ => none
  | .rr c _ => match v with
    | .sl id => match get H id with
      | some (.rr c' xs) => match ayZ c' c xs with
        | some ys => some (.rr c ys, H)
        | none => none
      | some (.row c' xs) => match K.ls c c' with
        | some h => some (.rr c (amj h.down xs), (id, .rr c (amj h.down xs)) :: del H id)
        | none => none
      | _ => none
    | .c (.slice none 0 0) => some (.rr c [], H)
    | _ => none
  | .row c _ => match v with
    | .sl id => match get H id with
      | some (.row c' xs) => match am5 c' c xs with
        | some ys => some (.row c ys, del H id)
        | none => none
      | some (.hole c' xs i o u) => match am5 c' c xs with
        | some ys => match (K.vw c (atL (K.df c) ys i))[o]? with
          | some (.own c2 _) => match u with
            | .ptr id2 p => match p with
              | 0 => match get (del H id) id2 with
                | some (.cells fs) => match own (del (del H id) id2) c2 fs with
                  | some (y, H') => match K.bk c ((K.vw c (atL (K.df c) ys i)).set o (.own c2 y)) with
                    | some x' => some (.row c (ys.set i.toNat x'), H')
                    | none => none
                  | none => none
                | _ => none
              | _ => none
            | _ => none
          | some (.mach _) => match u with
            | .mc id2 => match get (del H id) id2 with
              | some (.mach m) => match K.bk c ((K.vw c (atL (K.df c) ys i)).set o (.mach m)) with
                | some x' => some (.row c (ys.set i.toNat x'), del (del H id) id2)
                | none => none
              | _ => none
            | _ => none
          | _ => none
        | none => none
      | _ => none
    | .c (.slice none 0 0) => some (.row c [], H)
    | _ => none
  | .own c _ => match v with
    | .ptr id o => match o with
      | 0 => match get H id with
        | some (.cells fs) => match own (del H id) c fs with
          | some (x, H') => some (.own c x, H')
          | none => none
        | _ => none
      | _ => none
    | _ => none
  | .o => match oB v with
    | true => some (.o, H)
    | false => none
  | .mp c ag _ => match v with
    | .mc id => match get H id with
      | some (.mp c' ag' m) => match ag' == ag with
        | true => match aDP c' c m with
          | some m' => some (.mp c ag m', del H id)
          | none => none
        | false => none
      | _ => none
    | _ => none
  | .mach _ => match v with
    | .mc id => match get H id with
      | some (.mach m) => some (.mach m, del H id)
      | _ => none
    | .c .nilIface => some (.mach K.nilM, H)
    | .ifc t v => match v with
      | .ptr id o => match o with
        | 0 => match K.kd t with
          | some c => match get H id with
            | some (.cells fs) => match own (del H id) c fs with
              | some (x, H') => match K.mkM c x with
                | some m => some (.mach m, H')
                | none => none
              | none => none
            | _ => none
          | none => none
        | _ => none
      | _ => none
    | _ => none
def atR (a : KT.H K → Fl K.T K.M → V → Option (Fl K.T K.M × KT.H K)) : KT.H K → List (Fl K.T K.M) → List (Fd K.T K.M) → Option (List (Fl K.T K.M) × KT.H K)
  | H, [], [] => some ([], H)
  | H, e :: es, .f x :: fs => match atR a H es fs with
    | some (l, H') => some (x :: l, H')
    | none => none
  | H, e :: es, .v v :: fs => match a H e v with
    | some (x, H') => match atR a H' es fs with
      | some (l, H'') => some (x :: l, H'')
      | none => none
    | none => none
  | _, _, _ => none
def aGc : Nat → KT.H K → (c : Nat) → List (Fd K.T K.M) → Option (K.T c × KT.H K)
  | 0, _, _, _ => none
  | f + 1, H, c, fs => match atR K (aGa K (aGc f)) H (K.vw c (K.df c)) fs with
    | some (l, H') => match K.bk c l with
      | some x => some (x, H')
      | none => none
    | none => none
def depth : Nat := 9
abbrev asm : KT.H K → Fl K.T K.M → V → Option (Fl K.T K.M × KT.H K) := aGa K (aGc K depth)
end
section
variable {K : KT} {ρ : Env}
theorem ao2 : ∀ {l : List (Fl K.T K.M)} {vs : List Value} {L : List aad} {h : Hp}, aje l = true → abH (fsS (pcS K) l vs ++ L) h → vs = l.map flV ∧ abH L h
  | [], [], _, _, _, s => ⟨rfl, s⟩
  | f :: l, v :: vs, L, h, hp, s => by
    obtain ⟨k1, k2, a, e, hA, hL⟩ := s
    have hd := Ent.drop h (show abH (pcS K f v :: (fsS (pcS K) l vs ++ L)) h from ⟨k1, k2, a, e, hA, hL⟩)
    rw [aaE] at hA
    cases f <;> simp only [aje, Bool.false_eq_true] at hp
    · obtain ⟨h1, h2⟩ := ao2 hp hd
      exact ⟨by rw [List.map_cons, ← h1]; congr 1, h2⟩
    · obtain ⟨h1, h2⟩ := ao2 hp hd
      exact ⟨by rw [List.map_cons, ← h1]; congr 1, h2⟩
  | [], _ :: _, _, _, _, ⟨_, _, _, _, hf, _⟩ => hf.elim
  | _ :: _, [], _, _, _, ⟨_, _, _, _, hf, _⟩ => hf.elim
theorem aqm {c : Nat} (hc : K.pl c = true) : ∀ {xs : List (K.T c)} {vss : List (List Value)} {L : List aad} {h : Hp}, abH (acg K (pcS K) c xs vss ++ L) h → vss = xs.map (aeR K c) ∧ abH L h
  | [], [], _, _, s => ⟨rfl, s⟩
  | x :: xs, vs :: vss, L, h, s => by
    have s' : abH (fsS (pcS K) (K.vw c x) vs ++ (acg K (pcS K) c xs vss ++ L)) h := by simpa [acg] using s
    obtain ⟨h1, h2⟩ := ao2 (K.pl_ok c hc x) s'
    obtain ⟨h3, h4⟩ := aqm hc h2
    exact ⟨by rw [List.map_cons, ← h3, h1]; rfl, h4⟩
  | [], _ :: _, _, _, ⟨_, _, _, _, hf, _⟩ => hf.elim
  | _ :: _, [], _, _, ⟨_, _, _, _, hf, _⟩ => hf.elim
theorem ai8 {B : Nat} {w : World} {H : KT.H K} {X : List aad} {id c : Nat} {xs : List (K.T c)} (s : Sat B w (dH K ρ H ++ X)) (h : get H id = some (.row c xs) ∨ get H id = some (.ro c xs)) : aat ρ (.sl id) = .slice (ρ.s id).a xs.length (ρ.s id).c := by
  rcases h with h | h
  · rw [aat, aid (H := H) (m := xs.length) (by unfold ayd; rw [h]) s]
  · rw [aat, aid (H := H) (m := xs.length) (by unfold ayd; rw [h]) s]
theorem au9 {B : Nat} {w : World} {c : Nat} {xs : List (K.T c)} {A : Option Addr} {cap : Nat} {L : List aad} (hc : K.pl c = true) (hz : 0 < K.sz c) (s : Sat B w (rwS K c xs A cap :: L)) : Sat B w (roS (aeR K c) (K.sz c) A cap xs :: L) := by
  obtain ⟨h, Hh, k1, k2, a, e, h1, hL⟩ := s
  rw [ade] at h1
  obtain ⟨vss, q1, q2, a', e', g1, g2⟩ := h1
  have g3 : abH (acg K (pcS K) c xs vss ++ []) q2 := by simpa using g2
  obtain ⟨rfl, _⟩ := aqm hc g3
  have s2 : Sat B w (ae4 A xs.length cap (K.sz c) (xs.flatMap (aeR K c)) :: L) := by
    refine ⟨h, Hh, k1, k2, a, e, ?_, hL⟩
    rw [← List.flatMap_def] at g1
    rw [e']
    obtain ⟨r1, r2, r3, r4⟩ := g1
    refine ⟨r1, r2, r3, r4.imp id ?_⟩
    rintro ⟨b, o, spare, hA, hs, hp⟩
    exact ⟨b, o, spare, hA, hs, fun i v hi => by unfold acW; rw [hp i v hi]⟩
  exact asI hz (fun x => by unfold aeR; rw [List.length_map, K.sz_ok]) rfl B w s2
theorem asF {B : Nat} {w : World} {c c' : Nat} {hc : PLift (K.T c' = List (K.T c))} (h : K.ls c c' = some hc) : ∀ {xs : List (K.T c')} {vss : List (List Value)} {L : List aad}, Sat B w (acg K (pcS K) c' xs vss ++ L) →
    ∃ ps : List (Option Addr × Nat), (vss.flatten.length = xs.length ∧ ∀ (i : Nat) ys, (amj hc.down xs)[i]? = some ys → ∃ a, ps[i]? = some a ∧ vss.flatten[i]? = some (.slice a.1 ys.length a.2)) ∧
      Sat B w (ae1 (fun u => ∀ (i : Nat) ys a, (amj hc.down xs)[i]? = some ys → ps[i]? = some a → Sl (aeR K c) (K.sz c) u u.heap.size a.1 ys ∧ ys.length ≤ a.2) :: L)
  | [], [], L, s => ⟨[], ⟨rfl, fun i ys hi => by rw [aeU] at hi; cases hi⟩, s.imp fun k hk => (apl.trans (Ent.cons (adK fun _ _ i ys a hi => by rw [aeU] at hi; cases hi) Ent.refl)) k hk⟩
  | x :: xs, vs :: vss, L, s => by
    have s' : Sat B w (fsS (pcS K) (K.vw c' x) vs ++ (acg K (pcS K) c' xs vss ++ L)) := s.imp fun k hk => by simpa [acg] using hk
    have hro : ∃ v A cap, vs = [v] ∧ v = .slice A (hc.down ▸ x : List (K.T c)).length cap ∧ Sat B w (roS (aeR K c) (K.sz c) A cap (hc.down ▸ x) :: (acg K (pcS K) c' xs vss ++ L)) := by
      rcases K.ls_ok _ _ _ h x with hv | ⟨hv, hpl, hsz⟩
      · rw [hv] at s'
        match vs, s' with
        | [], s' => obtain ⟨_, _, _, _, _, _, hf, _⟩ := s'; exact hf.elim
        | _ :: _ :: _, s' => obtain ⟨_, _, _, _, _, _, _, _, _, _, _, hf, _⟩ := s'; exact hf.elim
        | [v], s' =>
          obtain ⟨k, Hk, k1, k2, a, e, h1, h2⟩ := (show Sat B w (pcS K (.ro c (hc.down ▸ x)) v :: (acg K (pcS K) c' xs vss ++ L)) from s')
          rw [aaE] at h1
          obtain ⟨A, cap, hv', hro⟩ := h1
          exact ⟨v, A, cap, rfl, hv', k, Hk, k1, k2, a, e, hro, h2⟩
      · rw [hv] at s'
        match vs, s' with
        | [], s' => obtain ⟨_, _, _, _, _, _, hf, _⟩ := s'; exact hf.elim
        | _ :: _ :: _, s' => obtain ⟨_, _, _, _, _, _, _, _, _, _, _, hf, _⟩ := s'; exact hf.elim
        | [v], s' =>
          obtain ⟨k, Hk, k1, k2, a, e, h1, h2⟩ := (show Sat B w (pcS K (.row c (hc.down ▸ x)) v :: (acg K (pcS K) c' xs vss ++ L)) from s')
          rw [aaE] at h1
          obtain ⟨A, cap, hv', hro⟩ := h1
          exact ⟨v, A, cap, rfl, hv', au9 hpl hsz ⟨k, Hk, k1, k2, a, e, hro, h2⟩⟩
    obtain ⟨v, A, cap, rfl, rfl, s0⟩ := hro
    have s1 : Sat B w (acg K (pcS K) c' xs vss ++ (roS (aeR K c) (K.sz c) A cap (hc.down ▸ x) :: L)) := s0.imp fun k hk => abF (List.perm_middle (l₁ := acg K (pcS K) c' xs vss)).symm hk
    obtain ⟨ps, ⟨g1, g2⟩, s2⟩ := asF h s1
    refine ⟨(A, cap) :: ps, ⟨by simp [g1], fun i ys hi => ?_⟩, ?_⟩
    · rw [aeU] at hi g2
      cases i with
      | zero => simp at hi; subst hi; exact ⟨_, rfl, rfl⟩
      | succ i => exact g2 i ys (by simpa using hi)
    · refine s2.imp fun k hk => aaL (adK fun u hu i ys a hi ha => ?_) (avJ k hk)
      rw [aeU] at hi hu
      cases i with
      | zero => simp at hi ha; subst hi ha; exact hu.2
      | succ i => exact hu.1 i ys a (by simpa using hi) (by simpa using ha)
  | [], _ :: _, _, ⟨_, _, _, _, _, _, hf, _⟩ => hf.elim
  | _ :: _, [], _, ⟨_, _, _, _, _, _, hf, _⟩ => hf.elim
theorem aED {B : Nat} {w : World} {c c' : Nat} {hc : PLift (K.T c' = List (K.T c))} (h : K.ls c c' = some hc) {xs : List (K.T c')} {A : Option Addr} {cap : Nat} {L : List aad} (s : Sat B w (rwS K c' xs A cap :: L)) :
    ∃ ps : List (Option Addr × Nat), Sat B w (ae1 (fun u => ((amj hc.down xs).length ≤ 9223372036854775807 ∧ (amj hc.down xs).length ≤ cap) ∧
      ∀ (i : Nat) ys, (amj hc.down xs)[i]? = some ys → ∃ a, ps[i]? = some a ∧ (Sl (aeR K c) (K.sz c) u u.heap.size a.1 ys ∧ ys.length ≤ a.2) ∧ ∃ b o, A = some ⟨b, o, none⟩ ∧ b < u.heap.size ∧ u.cell? ⟨b, o + i, none⟩ = some (.slice a.1 ys.length a.2)) :: L) := by
  obtain ⟨k, Hk, k1, k2, a, e, h1, hL⟩ := s
  rw [ade] at h1
  obtain ⟨vss, q1, q2, a', e', g1, g2⟩ := h1
  have hs0 : abH ((ae4 A xs.length cap (K.sz c') vss.flatten :: acg K (pcS K) c' xs vss) ++ L) k := aam.2 ⟨k1, k2, a, e, ⟨q1, q2, a', e', g1, g2⟩, hL⟩
  have hs1 : abH (acg K (pcS K) c' xs vss ++ (ae4 A xs.length cap (K.sz c') vss.flatten :: L)) k := abF (List.perm_middle (l₁ := acg K (pcS K) c' xs vss)).symm hs0
  obtain ⟨ps, ⟨f1, f2⟩, s2⟩ := asF h ⟨k, Hk, hs1⟩
  have hsz : K.sz c' = 1 ∨ xs = [] := by
    cases xs with
    | nil => exact .inr rfl
    | cons x xs => left; rw [← K.sz_ok c' x]; rcases K.ls_ok _ _ _ h x with e | ⟨e, _⟩ <;> rw [e] <;> rfl
  have s3 : Sat B w (ae4 A xs.length cap (K.sz c') vss.flatten :: ae1 (fun u => ∀ (i : Nat) ys a, (amj hc.down xs)[i]? = some ys → ps[i]? = some a → Sl (aeR K c) (K.sz c) u u.heap.size a.1 ys ∧ ys.length ≤ a.2) :: L) := s2.imp fun _ => aoP
  refine ⟨ps, ?_⟩
  have hlen : (amj hc.down xs).length = xs.length := by rw [aeU, List.length_map]
  rcases hsz with hsz | rfl
  · rw [hsz] at s3
    have s4 : Sat B w (ae4 A xs.length cap 1 (vss.flatten.flatMap fun v => [v]) :: ae1 (fun u => ∀ (i : Nat) ys a, (amj hc.down xs)[i]? = some ys → ps[i]? = some a → Sl (aeR K c) (K.sz c) u u.heap.size a.1 ys ∧ ys.length ≤ a.2) :: L) := by
      have : (vss.flatten.flatMap fun v => [v]) = vss.flatten := by simp
      rw [this]; exact s3
    have s5 := asI (enc := fun v : Value => [v]) Nat.one_pos (fun _ => rfl) f1 B w s4
    refine s5.imp fun k hk => aaL (adK fun u hu => ?_) (avJ k hk)
    obtain ⟨⟨u1, u2⟩, u3⟩ := hu
    refine ⟨⟨by rw [hlen, ← f1]; exact u1.1, by rw [hlen, ← f1]; exact u2⟩, fun i ys hi => ?_⟩
    obtain ⟨a, ha, hv⟩ := f2 i ys hi
    have hlt := (List.getElem?_eq_some_iff.1 hv).1
    obtain ⟨b, o, hA, hb, hc'⟩ := u1.at_ hlt
    refine ⟨a, ha, u3 i ys a hi ha, b, o, hA, hb, ?_⟩
    have := hc' i hlt 0 (.slice a.1 ys.length a.2) (by rw [(List.getElem?_eq_some_iff.1 hv).2]; rfl)
    simpa using this
  · refine s3.imp fun k hk => aaL (adK fun u hu => ⟨⟨by simp [aeU], by simp [aeU]⟩, fun i ys hi => by rw [aeU] at hi; cases hi⟩) (Ent.drop k hk)
def aDV (K : KT) (a : KT.H K → Fl K.T K.M → V → Option (Fl K.T K.M × KT.H K)) : Prop :=
  ∀ H e v fl H', a H e v = some (fl, H') → ∀ ρ X B w, Sat B w (dH K ρ H ++ X) → Sat B w (pcS K fl (aat ρ v) :: (dH K ρ H' ++ X))
def aDS (K : KT) (own : KT.H K → (c : Nat) → List (Fd K.T K.M) → Option (K.T c × KT.H K)) : Prop :=
  ∀ H c fs x H', own H c fs = some (x, H') → ∀ ρ X vs B w, Sat B w (fsS (fS K ρ) fs vs ++ (dH K ρ H ++ X)) → Sat B w (fsS (pcS K) (K.vw c x) vs ++ (dH K ρ H' ++ X))
theorem abn {B : Nat} {w : World} {p : aad} {L : List aad} (s : Sat B w L) (h : ∀ k, p k) : Sat B w (p :: L) := s.imp fun k hk => ⟨fun _ _ => none, k, fun _ _ => .inl rfl, by funext x y; rfl, h _, hk⟩
theorem abe {B : Nat} {w : World} {A A' : aad} {L : List aad} (f : ∀ h, A h → A' h) (s : Sat B w (A :: L)) : Sat B w (A' :: L) := s.imp fun _ => aaL f
theorem auh {own : KT.H K → (c : Nat) → List (Fd K.T K.M) → Option (K.T c × KT.H K)} (ho : aDS K own) {H H' : KT.H K} {id c : Nat} {fs : List (Fd K.T K.M)} {x : K.T c} (hg : get H id = some (.cells fs)) (h : own (del H id) c fs = some (x, H')) {X : List aad} {B : Nat} {w : World} (s : Sat B w (dH K ρ H ++ X)) :
    Sat B w (obS K c x (ρ.p id) :: (dH K ρ H' ++ X)) := by
  obtain ⟨vs, s2⟩ := agY (s.imp (aaN (ρ := ρ) hg))
  have s3 := ho _ _ _ _ _ h ρ (pts (ρ.p id).1 (ρ.p id).2 vs :: X) vs B w (s2.perm (by
    show ((pts (ρ.p id).1 (ρ.p id).2 vs :: fsS (fS K ρ) fs vs) ++ (dH K ρ (del H id) ++ X)).Perm (fsS (fS K ρ) fs vs ++ (dH K ρ (del H id) ++ (pts (ρ.p id).1 (ρ.p id).2 vs :: X)))
    rw [← List.append_assoc, ← List.append_assoc]
    exact (List.perm_middle (l₁ := fsS (fS K ρ) fs vs ++ dH K ρ (del H id))).symm))
  have s4 : Sat B w ((pts (ρ.p id).1 (ρ.p id).2 vs :: fsS (pcS K) (K.vw c x) vs) ++ (dH K ρ H' ++ X)) := s3.perm (by
    rw [← List.append_assoc, List.cons_append, ← List.append_assoc]
    exact List.perm_middle)
  refine s4.imp fun k hk => ?_
  obtain ⟨k1, k2, a, e, g1, g2⟩ := aam.1 hk
  exact ⟨k1, k2, a, e, amU.2 ⟨vs, g1⟩, g2⟩
theorem ay9 {own : KT.H K → (c : Nat) → List (Fd K.T K.M) → Option (K.T c × KT.H K)} (ho : aDS K own) : aDV K (aGa K own) := by
  intro H e v fl H' h ρ X B w s
  unfold aGa at h
  split at h
  · split at h
    · rename_i hi
      split at h
      · rename_i hk
        cases h
        obtain rfl := agZ hk
        exact abn s fun k => aaE.2 (show aat ρ v = _ from afs hi)
      · cases h
    · cases h
  · split at h
    · rename_i hb; cases h; exact abn s fun k => aaE.2 (show aat ρ v = _ from ajK hb)
    · cases h
  · cases h
  · rename_i c xs0
    split at h
    · rename_i id
      split at h
      · rename_i c' xs hg
        split at h
        · rename_i ys hy
          cases h
          obtain ⟨rfl, rfl⟩ := agq hy
          have hv := ai8 s (.inr hg)
          obtain ⟨h0, H0, t0⟩ := s
          have key : Sat B w (roS (aeR K c') (K.sz c') (ρ.s id).a (ρ.s id).c ys :: (dH K ρ H ++ X)) := by
            have : ∀ k, abH (dH K ρ H ++ X) k → abH (roS (aeR K c') (K.sz c') (ρ.s id).a (ρ.s id).c ys :: (dH K ρ H ++ X)) k := by
              intro k hk
              obtain ⟨j1, j2, a1, e1, ⟨_, m2⟩, mL⟩ := aaN (ρ := ρ) hg k hk
              obtain ⟨p, hp, hΦ⟩ := m2
              refine ⟨p, k, fun b o => ?_, ?_, ⟨p, fun b o x hx => ⟨(hp b o x hx).1, hx⟩, hΦ⟩, hk⟩
              · cases hpb : p b o with
                | none => exact .inl rfl
                | some x =>
                  obtain ⟨⟨v, rfl⟩, h2⟩ := hp b o x hpb
                  exact .inr (.inr ⟨v, rfl, by rw [e1]; unfold acW; rw [h2]⟩)
              · funext b o
                unfold acW
                cases hpb : p b o with
                | none => rfl
                | some x =>
                  obtain ⟨⟨v, rfl⟩, h2⟩ := hp b o x hpb
                  rw [e1]; unfold acW; rw [h2]
            exact ⟨h0, H0, this _ t0⟩
          exact abe (fun k hk => aaE.2 (show pcW K (obS K) (rwS K) (.ro c' ys) (aat ρ (.sl id)) k from ⟨_, _, hv, hk⟩)) key
        · cases h
      · rename_i c' xs hg
        split at h
        · rename_i ys hy
          split at h
          · rename_i hpl
            cases h
            obtain ⟨rfl, rfl⟩ := agq hy
            have hv := ai8 s (.inl hg)
            obtain ⟨hh, Hh, k1, k2, a, e, ⟨h1, h2⟩, hL⟩ := s.imp (aaN (ρ := ρ) hg)
            simp only [Bool.and_eq_true] at hpl
            have s2 : Sat B w (rwS K c' ys (ρ.s id).a (ρ.s id).c :: (dH K ρ (del H id) ++ X)) := ⟨hh, Hh, k1, k2, a, e, h2, hL⟩
            refine ((au9 hpl.1 (Nat.le_of_ble_eq_true hpl.2) s2).imp axw).imp fun k hk => ?_
            exact aaL (fun k hk => aaE.2 (show pcW K (obS K) (rwS K) (.ro c' ys) (aat ρ (.sl id)) k from ⟨_, _, hv, hk⟩)) (abm (fun k hk => aaL (fun k hk => ⟨h1, hk⟩) hk) hk)
          · cases h
        · cases h
      · cases h
    · cases h
      exact s.imp fun k hk => by
        have := aBt (enc := aeR K c) (sz := K.sz c) (A := none) (c := 0) k hk
        exact aaL (fun k hk => aaE.2 (show pcW K (obS K) (rwS K) (.ro c []) (.slice none 0 0) k from ⟨none, 0, rfl, hk⟩)) this
    · cases h
  · rename_i c xs0
    split at h
    · rename_i id
      split at h
      · rename_i c' xs hg
        split at h
        · rename_i ys hy
          cases h
          obtain ⟨rfl, rfl⟩ := ayY hy
          have hv : aat ρ (.sl id) = .slice (ρ.s id).a ys.length (ρ.s id).c := by
            rw [aat, aid (H := H) (m := ys.length) (by unfold ayd; rw [hg]) s]
          obtain ⟨h0, H0, t0⟩ := s
          refine ⟨h0, H0, ?_⟩
          obtain ⟨j1, j2, a1, e1, ⟨m1, ps, m2⟩, mL⟩ := aaN (ρ := ρ) hg h0 t0
          obtain ⟨p, hp, hΦ⟩ := m2
          have hpp : ∀ b o x, p b o = some x → (∃ v, x = .look v) ∧ h0 b o = some x := fun b o x hx => ⟨(hp b o x hx).1, by rw [e1]; unfold acW; rw [(hp b o x hx).2]⟩
          refine ⟨p, h0, fun b o => ?_, ?_, aaE.2 (show pcW K (obS K) (rwS K) (.rr c' ys) (aat ρ (.sl id)) p from ⟨_, _, hv, ps, p, fun b o x hx => ⟨(hpp b o x hx).1, hx⟩, hΦ⟩), t0⟩
          · cases hpb : p b o with
            | none => exact .inl rfl
            | some x =>
              obtain ⟨⟨v, rfl⟩, h2⟩ := hpp b o x hpb
              exact .inr (.inr ⟨v, rfl, h2⟩)
          · funext b o
            unfold acW
            cases hpb : p b o with
            | none => rfl
            | some x => exact (hpp b o x hpb).2
        · cases h
      · rename_i c' xs hg
        split at h
        · rename_i hc hls
          cases h
          have hv := ai8 s (.inl hg)
          obtain ⟨hh, Hh, k1, k2, a, e, ⟨h1, h2⟩, hL⟩ := s.imp (aaN (ρ := ρ) hg)
          have s2 : Sat B w (rwS K c' xs (ρ.s id).a (ρ.s id).c :: (dH K ρ (del H id) ++ X)) := ⟨hh, Hh, k1, k2, a, e, h2, hL⟩
          obtain ⟨ps, s3⟩ := aED hls s2
          have hlen : (amj hc.down xs).length = xs.length := by rw [aeU, List.length_map]
          refine (s3.imp alT).imp fun k hk => ?_
          exact aaL (fun k hk => aaE.2 (show pcW K (obS K) (rwS K) (.rr c (amj hc.down xs)) (aat ρ (.sl id)) k from ⟨_, _, by rw [hv, hlen], ps, hk⟩)) (abm (fun k hk => aaL (fun k hk => ⟨by rw [h1, hlen], ps, hk⟩) hk) hk)
        · cases h
      · cases h
    · cases h
      exact s.imp fun k hk => by
        refine aaL (fun k hk => aaE.2 (show pcW K (obS K) (rwS K) (.rr c []) (.slice none 0 0) k from ⟨none, 0, rfl, [], ?_⟩)) (apl k hk)
        exact adK (fun u _ => ⟨⟨by simp, by simp⟩, fun i ys hi => by cases hi⟩) k hk
    · cases h
  · rename_i c xs0
    split at h
    · rename_i id
      split at h
      · rename_i c' xs hg
        split at h
        · rename_i ys hy
          cases h
          obtain ⟨rfl, rfl⟩ := agq hy
          have hv := ai8 s (.inl hg)
          obtain ⟨hh, Hh, k1, k2, a, e, ⟨h1, h2⟩, hL⟩ := s.imp (aaN (ρ := ρ) hg)
          exact ⟨hh, Hh, k1, k2, a, e, aaE.2 (show pcW K (obS K) (rwS K) (.row c' ys) (aat ρ (.sl id)) k1 from ⟨_, _, hv, h2⟩), hL⟩
        · cases h
      · rename_i c' xs i o u hg
        split at h
        · rename_i ys hy
          obtain ⟨rfl, rfl⟩ := agq hy
          have fin : ∀ {f' : Fl K.T K.M} {x' : K.T c'} {L : List aad}, K.bk c' ((K.vw c' (atL (K.df c') ys i)).set o f') = some x' → Sat B w (acj K ρ id (.hole c' ys i o u) :: pcS K f' (aat ρ u) :: L) → Sat B w (pcS K (.row c' (ys.set i.toNat x')) (aat ρ (.sl id)) :: L) := by
            intro f' x' L hb s'
            refine abe (fun k hk => ?_) (awz (K.bk_ok _ _ _ hb) s')
            exact aaE.2 (show pcW K (obS K) (rwS K) (.row c' (ys.set i.toNat x')) (aat ρ (.sl id)) k from ⟨(ρ.s id).a, (ρ.s id).c, by rw [aat, hk.1], hk.2⟩)
          have s1 : Sat B w (dH K ρ (del H id) ++ (acj K ρ id (.hole c' ys i o u) :: X)) := (s.imp (aaN (ρ := ρ) hg)).perm (List.perm_middle (l₁ := dH K ρ (del H id))).symm
          split at h
          · rename_i c2 y0 _
            split at h
            · rename_i id2 p
              split at h
              · split at h
                · rename_i fs hg2
                  split at h
                  · rename_i y H2 hown
                    split at h
                    · rename_i x' hb
                      cases h
                      have s2 := auh ho hg2 hown s1
                      have s3 : Sat B w (pcS K (.own c2 y) (aat ρ (.ptr id2 0)) :: (dH K ρ H' ++ (acj K ρ id (.hole c' ys i o (.ptr id2 0)) :: X))) := abe (fun k hk => aaE.2 (show pcW K (obS K) (rwS K) (.own c2 y) (aat ρ (.ptr id2 0)) k from ⟨ρ.p id2, rfl, hk⟩)) s2
                      refine fin hb (s3.perm ?_)
                      exact (List.Perm.cons _ (List.perm_middle (l₁ := dH K ρ H'))).trans (List.Perm.swap ..)
                    · cases h
                  · cases h
                · cases h
              · cases h
            · cases h
          · split at h
            · rename_i id2
              split at h
              · rename_i m hg2
                split at h
                · rename_i x' hb
                  cases h
                  have s2 := s1.imp (aaN (ρ := ρ) hg2)
                  refine fin (f' := .mach m) hb (s2.perm ?_)
                  exact (List.Perm.cons _ (List.perm_middle (l₁ := dH K ρ (del (del H id) id2)))).trans (List.Perm.swap ..)
                · cases h
              · cases h
            · cases h
          · cases h
        · cases h
      · cases h
    · cases h
      have hr : ∀ k, rwS K c [] none 0 k := fun k => ade.2 ⟨[], fun _ _ => none, k, fun _ _ => .inl rfl, by funext x y; rfl, avb _ _, trivial⟩
      exact abn s fun k => aaE.2 (show pcW K (obS K) (rwS K) (.row c []) (.slice none 0 0) k from ⟨none, 0, rfl, hr k⟩)
    · cases h
  · rename_i c x0
    split at h
    · rename_i id o
      split at h
      · split at h
        · rename_i fs hg
          split at h
          · rename_i x H2 hx
            cases h
            have s2 := auh ho hg hx s
            exact abe (fun k hk => aaE.2 (show pcW K (obS K) (rwS K) (.own c x) (aat ρ (.ptr id 0)) k from ⟨ρ.p id, rfl, hk⟩)) s2
          · cases h
        · cases h
      · cases h
    · cases h
  · split at h
    · rename_i hb; cases h; exact abn s fun _ => aaE.2 (show pcW K (obS K) (rwS K) .o (aat ρ v) _ from aGr hb)
    · cases h
  · rename_i c ag m0
    split at h
    · rename_i id
      split at h
      · rename_i c' ag' m hg
        split at h
        · rename_i e0
          split at h
          · rename_i m' hm
            cases h
            obtain ⟨e, h2⟩ := aBf hm
            have e1 : ag' = ag := eq_of_beq e0
            subst e; subst h2; subst e1
            exact s.imp (aaN (ρ := ρ) hg)
          · cases h
        · cases h
      · cases h
    · cases h
  · split at h
    · rename_i id
      split at h
      · rename_i m hg
        cases h
        exact s.imp (aaN (ρ := ρ) hg)
      · cases h
    · cases h
      exact abn s fun k => aaE.2 (by simp only [pcW, K.nilM_ok]; rfl)
    · rename_i t v
      split at h
      · rename_i id o
        split at h
        · split at h
          · rename_i c hkd
            split at h
            · rename_i fs hg
              split at h
              · rename_i x H2 hx
                split at h
                · rename_i m hm
                  cases h
                  have s2 := auh ho hg hx s
                  refine abe (fun k hk => aaE.2 ?_) s2
                  simp only [pcW, K.mkM_ok _ _ _ hm]
                  exact ⟨ρ.p id, by rw [K.kd_ok _ _ hkd]; rfl, hk⟩
                · cases h
              · cases h
            · cases h
          · cases h
        · cases h
      · cases h
    · cases h
theorem agC {A : List aad} : ∀ {L : List aad} {h : Hp}, abH (L ++ A) h → abH A h
  | [], _, s => s
  | _ :: _, h, s => agC (Ent.drop h s)
theorem akn {α : Type _} (A B X : List α) (p : α) : (A ++ (B ++ (p :: X))).Perm (p :: (A ++ (B ++ X))) := by
  rw [← List.append_assoc, ← List.append_assoc]; exact List.perm_middle
theorem acV {α : Type _} (A B X : List α) : (A ++ (B ++ X)).Perm (B ++ (A ++ X)) := by
  rw [← List.append_assoc, ← List.append_assoc]; exact List.perm_append_comm.append_right _
theorem aaM {B : Nat} {w : World} {L : List aad} {p : Prop} (s : Sat B w ((fun _ => False) :: L)) : p := by
  obtain ⟨_, _, _, _, _, _, hf, _⟩ := s; exact hf.elim
theorem aix {a : KT.H K → Fl K.T K.M → V → Option (Fl K.T K.M × KT.H K)} (ha : aDV K a) : ∀ {H : KT.H K} {es : List (Fl K.T K.M)} {fs : List (Fd K.T K.M)} {l : List (Fl K.T K.M)} {H' : KT.H K}, atR K a H es fs = some (l, H') →
    ∀ {ρ : Env} {X : List aad} {vs : List Value} {B : Nat} {w : World}, Sat B w (fsS (fS K ρ) fs vs ++ (dH K ρ H ++ X)) → Sat B w (fsS (pcS K) l vs ++ (dH K ρ H' ++ X))
  | H, [], [], l, H', h, ρ, X, vs, B, w, s => by
    cases h
    cases vs with
    | nil => exact s
    | cons v vs => exact aaM s
  | H, e :: es, .f x :: fs, l, H', h, ρ, X, vs, B, w, s => by
    unfold atR at h
    split at h
    · rename_i l' H2 h2
      cases h
      cases vs with
      | nil => exact aaM s
      | cons v vs =>
        have s1 : Sat B w (fsS (fS K ρ) fs vs ++ (dH K ρ H ++ (pcS K x v :: X))) := s.perm (akn (fsS (fS K ρ) fs vs) (dH K ρ H) X (pcS K x v)).symm
        have s2 := aix ha h2 s1
        exact s2.perm (akn (fsS (pcS K) l' vs) (dH K ρ H') X (pcS K x v))
    · cases h
  | H, e :: es, .v u :: fs, l, H', h, ρ, X, vs, B, w, s => by
    unfold atR at h
    split at h
    · rename_i x H1 h1
      split at h
      · rename_i l' H2 h2
        cases h
        cases vs with
        | nil => exact aaM s
        | cons v vs =>
          have hv : v = aat ρ u := Sat.pure (show Sat B w (anO (v = aat ρ u) :: (fsS (fS K ρ) fs vs ++ (dH K ρ H ++ X))) from s)
          have s0 : Sat B w (fsS (fS K ρ) fs vs ++ (dH K ρ H ++ X)) := s.imp Ent.drop
          have s1 := ha _ _ _ _ _ h1 ρ (fsS (fS K ρ) fs vs ++ X) B w (s0.perm (acV (fsS (fS K ρ) fs vs) (dH K ρ H) X))
          have s2 : Sat B w (fsS (fS K ρ) fs vs ++ (dH K ρ H1 ++ (pcS K x v :: X))) := s1.perm (by
            rw [← hv]
            exact (List.Perm.cons _ (acV (dH K ρ H1) (fsS (fS K ρ) fs vs) X)).trans (akn (fsS (fS K ρ) fs vs) (dH K ρ H1) X (pcS K x v)).symm)
          have s3 := aix ha h2 s2
          exact s3.perm (akn (fsS (pcS K) l' vs) (dH K ρ H') X (pcS K x v))
      · cases h
    · cases h
  | _, [], _ :: _, _, _, h, _, _, _, _, _, _ => by cases h
  | _, _ :: _, [], _, _, h, _, _, _, _, _, _ => by cases h
theorem azb : ∀ f, aDS K (aGc K f)
  | 0 => fun _ _ _ _ _ h => by cases h
  | f + 1 => fun H c fs x H' h ρ X vs B w s => by
    unfold aGc at h
    split at h
    · rename_i l H2 hl
      split at h
      · rename_i y hy
        cases h
        have := aix (ay9 (azb f)) hl s
        rw [K.bk_ok _ _ _ hy]
        exact this
      · cases h
    · cases h
theorem apU : aDV K (asm K) := ay9 (azb _)
end
end
end Go.Proofs.YteapeojalliebaaGreat
