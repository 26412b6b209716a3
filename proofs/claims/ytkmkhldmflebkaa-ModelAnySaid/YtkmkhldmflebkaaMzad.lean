/- Evaluation by itself: what lies open is put together again. No program occurs here. Evaluation by itself: rows written, elements pointed at. No program occurs here. Evaluation by itself: aggregates, literal slices, elements, interfaces. No program occurs here. Evaluation by itself: machines behind interfaces compared with nil. No program occurs here. -/
import Derived.Test.YtkmkhldmflebkaaMzac
import Derived.LaidEql
set_option linter.all false
namespace Go.Proofs.Ytkmkhldmflebkaa
section
open Go Go.RowKit
def agL {T : Nat → Type} (c c' : Nat) (xs : List (T c)) : Option (List (T c')) := if h : c = c' then some (h ▸ xs) else none
def ann {T : Nat → Type} (c c' : Nat) (xs : List (List (T c))) : Option (List (List (T c'))) := if h : c = c' then some (h ▸ xs) else none
theorem anm {T : Nat → Type} {c c' : Nat} {xs : List (List (T c))} {ys : List (List (T c'))} (h : ann c c' xs = some ys) : ∃ e : c = c', ys = e ▸ xs := by
  unfold ann at h
  split at h
  · rename_i e; cases h; exact ⟨e, rfl⟩
  · cases h
theorem adr {T : Nat → Type} {c c' : Nat} {xs : List (T c)} {ys : List (T c')} (h : agL c c' xs = some ys) : ∃ e : c = c', ys = e ▸ xs := by
  unfold agL at h
  split at h
  · rename_i e; cases h; exact ⟨e, rfl⟩
  · cases h
def agm {α β : Type} (h : α = β) (xs : List α) : List β := (congrArg List h) ▸ xs
theorem acQ {α β : Type} (h : α = β) (xs : List α) : agm h xs = xs.map (fun x => h ▸ x) := by subst h; simp [agm]
def oB : V → Bool
  | .ifc _ _ => true
  | .ptr _ _ => true
  | .sl _ => true
  | .c u => abA u
  | _ => false
theorem asV {ρ : Env} {v : V} (h : oB v = true) : abA (aap ρ v) = true := by
  cases v <;> first | rfl | (cases h; done) | exact h
section
variable (K : KT)
def asE (own : KT.H K → (c : Nat) → List (Fd K.T K.M) → Option (K.T c × KT.H K)) (H : KT.H K) (e : Fl K.T K.M) (v : V) : Option (Fl K.T K.M × KT.H K) :=
  match e with
  | .i k _ => match afD v with
    | some (k', x, _) => match aje k' k with
      | true => some (.i k x, H)
      | false => none
    | none => none
  | .b _ => match ajN v with
    | some x => some (.b x, H)
    | none => none
  | .c _ => none
  | .ro c _ => match v with
    | .sl id => match get H id with
      | some (.ro c' xs) => match agL c' c xs with
        | some ys => some (.ro c ys, H)
        | none => none
      | some (.row c' xs) => match agL c' c xs with
        | some ys => match K.pl c' && Nat.blt 0 (K.sz c') with
          | true => some (.ro c ys, (id, .ro c' xs) :: del H id)
          | false => none
        | none => none
      | _ => none
    | .c (.slice none 0 0) => some (.ro c [], H)
    | _ => none
  | .rr c _ => match v with
    | .sl id => match get H id with
      | some (.rr c' xs) => match ann c' c xs with
        | some ys => some (.rr c ys, H)
        | none => none
      | some (.row c' xs) => match K.ls c c' with
        | some h => some (.rr c (agm h.down xs), (id, .rr c (agm h.down xs)) :: del H id)
        | none => none
      | _ => none
    | .c (.slice none 0 0) => some (.rr c [], H)
    | _ => none
  | .row c _ => match v with
    | .sl id => match get H id with
      | some (.row c' xs) => match agL c' c xs with
        | some ys => some (.row c ys, del H id)
        | none => none
      | some (.hole c' xs i o u) => match agL c' c xs with
        | some ys => match (K.vw c (atL (K.df c) ys i))[o]? with
          | some (.own c2 _) => match u with
            | .ptr id2 p => match p with
              | 0 => match get (del H id) id2 with
                | some (.cells fs) => match own (del (del H id) id2) c2 fs with
                  | some (y, H') => match K.bk c ((K.vw c (atL (K.df c) ys i)).set o (.own c2 y)) with
                    | some x' => some (.row c (ys.set i.toNat x'), H')
                    | none => none
                  | none => none
                | _ => none
              | _ => none
            | _ => none
          | some (.mach _) => match u with
            | .mc id2 => match get (del H id) id2 with
              | some (.mach m) => match K.bk c ((K.vw c (atL (K.df c) ys i)).set o (.mach m)) with
                | some x' => some (.row c (ys.set i.toNat x'), del (del H id) id2)
                | none => none
              | _ => none
            | _ => none
          | _ => none
        | none => none
      | _ => none
    | .c (.slice none 0 0) => some (.row c [], H)
    | _ => none
  | .own c _ => match v with
    | .ptr id o => match o with
      | 0 => match get H id with
        | some (.cells fs) => match own (del H id) c fs with
          | some (x, H') => some (.own c x, H')
          | none => none
        | _ => none
      | _ => none
    | _ => none
  | .o => match oB v with
    | true => some (.o, H)
    | false => none
  | .mach _ => match v with
    | .mc id => match get H id with
      | some (.mach m) => some (.mach m, del H id)
      | _ => none
    | .c .nilIface => some (.mach K.nilM, H)
    | .ifc t v => match v with
      | .ptr id o => match o with
        | 0 => match K.kd t with
          | some c => match get H id with
            | some (.cells fs) => match own (del H id) c fs with
              | some (x, H') => match K.mkM c x with
                | some m => some (.mach m, H')
                | none => none
              | none => none
            | _ => none
          | none => none
        | _ => none
      | _ => none
    | _ => none
def ajU (a : KT.H K → Fl K.T K.M → V → Option (Fl K.T K.M × KT.H K)) : KT.H K → List (Fl K.T K.M) → List (Fd K.T K.M) → Option (List (Fl K.T K.M) × KT.H K)
  | H, [], [] => some ([], H)
  | H, e :: es, .f x :: fs => match ajU a H es fs with
    | some (l, H') => some (x :: l, H')
    | none => none
  | H, e :: es, .v v :: fs => match a H e v with
    | some (x, H') => match ajU a H' es fs with
      | some (l, H'') => some (x :: l, H'')
      | none => none
    | none => none
  | _, _, _ => none
def asG : Nat → KT.H K → (c : Nat) → List (Fd K.T K.M) → Option (K.T c × KT.H K)
  | 0, _, _, _ => none
  | f + 1, H, c, fs => match ajU K (asE K (asG f)) H (K.vw c (K.df c)) fs with
    | some (l, H') => match K.bk c l with
      | some x => some (x, H')
      | none => none
    | none => none
def depth : Nat := 9
abbrev asm : KT.H K → Fl K.T K.M → V → Option (Fl K.T K.M × KT.H K) := asE K (asG K depth)
end
section
variable {K : KT} {ρ : Env}
theorem aht : ∀ {l : List (Fl K.T K.M)} {vs : List Value} {L : List aag} {h : Hp}, afL l = true → aba (fsS (pcS K) l vs ++ L) h → vs = l.map flV ∧ aba L h
  | [], [], _, _, _, s => ⟨rfl, s⟩
  | f :: l, v :: vs, L, h, hp, s => by
    obtain ⟨k1, k2, a, e, hA, hL⟩ := s
    have hd := Ent.drop h (show aba (pcS K f v :: (fsS (pcS K) l vs ++ L)) h from ⟨k1, k2, a, e, hA, hL⟩)
    rw [aaI] at hA
    cases f <;> simp only [afL, Bool.false_eq_true] at hp
    · obtain ⟨h1, h2⟩ := aht hp hd
      exact ⟨by rw [List.map_cons, ← h1]; congr 1, h2⟩
    · obtain ⟨h1, h2⟩ := aht hp hd
      exact ⟨by rw [List.map_cons, ← h1]; congr 1, h2⟩
  | [], _ :: _, _, _, _, ⟨_, _, _, _, hf, _⟩ => hf.elim
  | _ :: _, [], _, _, _, ⟨_, _, _, _, hf, _⟩ => hf.elim
theorem agB {c : Nat} (hc : K.pl c = true) : ∀ {xs : List (K.T c)} {vss : List (List Value)} {L : List aag} {h : Hp}, aba (abj K (pcS K) c xs vss ++ L) h → vss = xs.map (acJ K c) ∧ aba L h
  | [], [], _, _, s => ⟨rfl, s⟩
  | x :: xs, vs :: vss, L, h, s => by
    have s' : aba (fsS (pcS K) (K.vw c x) vs ++ (abj K (pcS K) c xs vss ++ L)) h := by simpa [abj] using s
    obtain ⟨h1, h2⟩ := aht (K.pl_ok c hc x) s'
    obtain ⟨h3, h4⟩ := agB hc h2
    exact ⟨by rw [List.map_cons, ← h3, h1]; rfl, h4⟩
  | [], _ :: _, _, _, ⟨_, _, _, _, hf, _⟩ => hf.elim
  | _ :: _, [], _, _, ⟨_, _, _, _, hf, _⟩ => hf.elim
theorem ae3 {B : Nat} {w : World} {H : KT.H K} {X : List aag} {id c : Nat} {xs : List (K.T c)} (s : Sat B w (dH K ρ H ++ X)) (h : get H id = some (.row c xs) ∨ get H id = some (.ro c xs)) : aap ρ (.sl id) = .slice (ρ.s id).a xs.length (ρ.s id).c := by
  rcases h with h | h
  · rw [aap, aey (H := H) (m := xs.length) (by unfold amG; rw [h]) s]
  · rw [aap, aey (H := H) (m := xs.length) (by unfold amG; rw [h]) s]
theorem al6 {B : Nat} {w : World} {c : Nat} {xs : List (K.T c)} {A : Option Addr} {cap : Nat} {L : List aag} (hc : K.pl c = true) (hz : 0 < K.sz c) (s : Sat B w (rwS K c xs A cap :: L)) : Sat B w (roS (acJ K c) (K.sz c) A cap xs :: L) := by
  obtain ⟨h, Hh, k1, k2, a, e, h1, hL⟩ := s
  rw [abL] at h1
  obtain ⟨vss, q1, q2, a', e', g1, g2⟩ := h1
  have g3 : aba (abj K (pcS K) c xs vss ++ []) q2 := by simpa using g2
  obtain ⟨rfl, _⟩ := agB hc g3
  have s2 : Sat B w (acx A xs.length cap (K.sz c) (xs.flatMap (acJ K c)) :: L) := by
    refine ⟨h, Hh, k1, k2, a, e, ?_, hL⟩
    rw [← List.flatMap_def] at g1
    rw [e']
    obtain ⟨r1, r2, r3, r4⟩ := g1
    refine ⟨r1, r2, r3, r4.imp id ?_⟩
    rintro ⟨b, o, spare, hA, hs, hp⟩
    exact ⟨b, o, spare, hA, hs, fun i v hi => by unfold abO; rw [hp i v hi]⟩
  exact aji hz (fun x => by unfold acJ; rw [List.length_map, K.sz_ok]) rfl B w s2
theorem ajg {B : Nat} {w : World} {c c' : Nat} {hc : PLift (K.T c' = List (K.T c))} (h : K.ls c c' = some hc) : ∀ {xs : List (K.T c')} {vss : List (List Value)} {L : List aag}, Sat B w (abj K (pcS K) c' xs vss ++ L) →
    ∃ ps : List (Option Addr × Nat), (vss.flatten.length = xs.length ∧ ∀ (i : Nat) ys, (agm hc.down xs)[i]? = some ys → ∃ a, ps[i]? = some a ∧ vss.flatten[i]? = some (.slice a.1 ys.length a.2)) ∧
      Sat B w (adp (fun u => ∀ (i : Nat) ys a, (agm hc.down xs)[i]? = some ys → ps[i]? = some a → Sl (acJ K c) (K.sz c) u u.heap.size a.1 ys ∧ ys.length ≤ a.2) :: L)
  | [], [], L, s => ⟨[], ⟨rfl, fun i ys hi => by rw [acQ] at hi; cases hi⟩, s.imp fun k hk => (ahx.trans (Ent.cons (acE fun _ _ i ys a hi => by rw [acQ] at hi; cases hi) Ent.refl)) k hk⟩
  | x :: xs, vs :: vss, L, s => by
    have s' : Sat B w (fsS (pcS K) (K.vw c' x) vs ++ (abj K (pcS K) c' xs vss ++ L)) := s.imp fun k hk => by simpa [abj] using hk
    have hro : ∃ v A cap, vs = [v] ∧ v = .slice A (hc.down ▸ x : List (K.T c)).length cap ∧ Sat B w (roS (acJ K c) (K.sz c) A cap (hc.down ▸ x) :: (abj K (pcS K) c' xs vss ++ L)) := by
      rcases K.ls_ok _ _ _ h x with hv | ⟨hv, hpl, hsz⟩
      · rw [hv] at s'
        match vs, s' with
        | [], s' => obtain ⟨_, _, _, _, _, _, hf, _⟩ := s'; exact hf.elim
        | _ :: _ :: _, s' => obtain ⟨_, _, _, _, _, _, _, _, _, _, _, hf, _⟩ := s'; exact hf.elim
        | [v], s' =>
          obtain ⟨k, Hk, k1, k2, a, e, h1, h2⟩ := (show Sat B w (pcS K (.ro c (hc.down ▸ x)) v :: (abj K (pcS K) c' xs vss ++ L)) from s')
          rw [aaI] at h1
          obtain ⟨A, cap, hv', hro⟩ := h1
          exact ⟨v, A, cap, rfl, hv', k, Hk, k1, k2, a, e, hro, h2⟩
      · rw [hv] at s'
        match vs, s' with
        | [], s' => obtain ⟨_, _, _, _, _, _, hf, _⟩ := s'; exact hf.elim
        | _ :: _ :: _, s' => obtain ⟨_, _, _, _, _, _, _, _, _, _, _, hf, _⟩ := s'; exact hf.elim
        | [v], s' =>
          obtain ⟨k, Hk, k1, k2, a, e, h1, h2⟩ := (show Sat B w (pcS K (.row c (hc.down ▸ x)) v :: (abj K (pcS K) c' xs vss ++ L)) from s')
          rw [aaI] at h1
          obtain ⟨A, cap, hv', hro⟩ := h1
          exact ⟨v, A, cap, rfl, hv', al6 hpl hsz ⟨k, Hk, k1, k2, a, e, hro, h2⟩⟩
    obtain ⟨v, A, cap, rfl, rfl, s0⟩ := hro
    have s1 : Sat B w (abj K (pcS K) c' xs vss ++ (roS (acJ K c) (K.sz c) A cap (hc.down ▸ x) :: L)) := s0.imp fun k hk => abh (List.perm_middle (l₁ := abj K (pcS K) c' xs vss)).symm hk
    obtain ⟨ps, ⟨g1, g2⟩, s2⟩ := ajg h s1
    refine ⟨(A, cap) :: ps, ⟨by simp [g1], fun i ys hi => ?_⟩, ?_⟩
    · rw [acQ] at hi g2
      cases i with
      | zero => simp at hi; subst hi; exact ⟨_, rfl, rfl⟩
      | succ i => exact g2 i ys (by simpa using hi)
    · refine s2.imp fun k hk => aaE (acE fun u hu i ys a hi ha => ?_) (ak4 k hk)
      rw [acQ] at hi hu
      cases i with
      | zero => simp at hi ha; subst hi ha; exact hu.2
      | succ i => exact hu.1 i ys a (by simpa using hi) (by simpa using ha)
  | [], _ :: _, _, ⟨_, _, _, _, _, _, hf, _⟩ => hf.elim
  | _ :: _, [], _, ⟨_, _, _, _, _, _, hf, _⟩ => hf.elim
theorem arj {B : Nat} {w : World} {c c' : Nat} {hc : PLift (K.T c' = List (K.T c))} (h : K.ls c c' = some hc) {xs : List (K.T c')} {A : Option Addr} {cap : Nat} {L : List aag} (s : Sat B w (rwS K c' xs A cap :: L)) :
    ∃ ps : List (Option Addr × Nat), Sat B w (adp (fun u => ((agm hc.down xs).length ≤ 9223372036854775807 ∧ (agm hc.down xs).length ≤ cap) ∧
      ∀ (i : Nat) ys, (agm hc.down xs)[i]? = some ys → ∃ a, ps[i]? = some a ∧ (Sl (acJ K c) (K.sz c) u u.heap.size a.1 ys ∧ ys.length ≤ a.2) ∧ ∃ b o, A = some ⟨b, o, none⟩ ∧ b < u.heap.size ∧ u.cell? ⟨b, o + i, none⟩ = some (.slice a.1 ys.length a.2)) :: L) := by
  obtain ⟨k, Hk, k1, k2, a, e, h1, hL⟩ := s
  rw [abL] at h1
  obtain ⟨vss, q1, q2, a', e', g1, g2⟩ := h1
  have hs0 : aba ((acx A xs.length cap (K.sz c') vss.flatten :: abj K (pcS K) c' xs vss) ++ L) k := aan.2 ⟨k1, k2, a, e, ⟨q1, q2, a', e', g1, g2⟩, hL⟩
  have hs1 : aba (abj K (pcS K) c' xs vss ++ (acx A xs.length cap (K.sz c') vss.flatten :: L)) k := abh (List.perm_middle (l₁ := abj K (pcS K) c' xs vss)).symm hs0
  obtain ⟨ps, ⟨f1, f2⟩, s2⟩ := ajg h ⟨k, Hk, hs1⟩
  have hsz : K.sz c' = 1 ∨ xs = [] := by
    cases xs with
    | nil => exact .inr rfl
    | cons x xs => left; rw [← K.sz_ok c' x]; rcases K.ls_ok _ _ _ h x with e | ⟨e, _⟩ <;> rw [e] <;> rfl
  have s3 : Sat B w (acx A xs.length cap (K.sz c') vss.flatten :: adp (fun u => ∀ (i : Nat) ys a, (agm hc.down xs)[i]? = some ys → ps[i]? = some a → Sl (acJ K c) (K.sz c) u u.heap.size a.1 ys ∧ ys.length ≤ a.2) :: L) := s2.imp fun _ => ahk
  refine ⟨ps, ?_⟩
  have hlen : (agm hc.down xs).length = xs.length := by rw [acQ, List.length_map]
  rcases hsz with hsz | rfl
  · rw [hsz] at s3
    have s4 : Sat B w (acx A xs.length cap 1 (vss.flatten.flatMap fun v => [v]) :: adp (fun u => ∀ (i : Nat) ys a, (agm hc.down xs)[i]? = some ys → ps[i]? = some a → Sl (acJ K c) (K.sz c) u u.heap.size a.1 ys ∧ ys.length ≤ a.2) :: L) := by
      have : (vss.flatten.flatMap fun v => [v]) = vss.flatten := by simp
      rw [this]; exact s3
    have s5 := aji (enc := fun v : Value => [v]) Nat.one_pos (fun _ => rfl) f1 B w s4
    refine s5.imp fun k hk => aaE (acE fun u hu => ?_) (ak4 k hk)
    obtain ⟨⟨u1, u2⟩, u3⟩ := hu
    refine ⟨⟨by rw [hlen, ← f1]; exact u1.1, by rw [hlen, ← f1]; exact u2⟩, fun i ys hi => ?_⟩
    obtain ⟨a, ha, hv⟩ := f2 i ys hi
    have hlt := (List.getElem?_eq_some_iff.1 hv).1
    obtain ⟨b, o, hA, hb, hc'⟩ := u1.at_ hlt
    refine ⟨a, ha, u3 i ys a hi ha, b, o, hA, hb, ?_⟩
    have := hc' i hlt 0 (.slice a.1 ys.length a.2) (by rw [(List.getElem?_eq_some_iff.1 hv).2]; rfl)
    simpa using this
  · refine s3.imp fun k hk => aaE (acE fun u hu => ⟨⟨by simp [acQ], by simp [acQ]⟩, fun i ys hi => by rw [acQ] at hi; cases hi⟩) (Ent.drop k hk)
def aqV (K : KT) (a : KT.H K → Fl K.T K.M → V → Option (Fl K.T K.M × KT.H K)) : Prop :=
  ∀ H e v fl H', a H e v = some (fl, H') → ∀ ρ X B w, Sat B w (dH K ρ H ++ X) → Sat B w (pcS K fl (aap ρ v) :: (dH K ρ H' ++ X))
def aqU (K : KT) (own : KT.H K → (c : Nat) → List (Fd K.T K.M) → Option (K.T c × KT.H K)) : Prop :=
  ∀ H c fs x H', own H c fs = some (x, H') → ∀ ρ X vs B w, Sat B w (fsS (fS K ρ) fs vs ++ (dH K ρ H ++ X)) → Sat B w (fsS (pcS K) (K.vw c x) vs ++ (dH K ρ H' ++ X))
theorem abb {B : Nat} {w : World} {p : aag} {L : List aag} (s : Sat B w L) (h : ∀ k, p k) : Sat B w (p :: L) := s.imp fun k hk => ⟨fun _ _ => none, k, fun _ _ => .inl rfl, by funext x y; rfl, h _, hk⟩
theorem aa0 {B : Nat} {w : World} {A A' : aag} {L : List aag} (f : ∀ h, A h → A' h) (s : Sat B w (A :: L)) : Sat B w (A' :: L) := s.imp fun _ => aaE f
theorem akb {own : KT.H K → (c : Nat) → List (Fd K.T K.M) → Option (K.T c × KT.H K)} (ho : aqU K own) {H H' : KT.H K} {id c : Nat} {fs : List (Fd K.T K.M)} {x : K.T c} (hg : get H id = some (.cells fs)) (h : own (del H id) c fs = some (x, H')) {X : List aag} {B : Nat} {w : World} (s : Sat B w (dH K ρ H ++ X)) :
    Sat B w (obS K c x (ρ.p id) :: (dH K ρ H' ++ X)) := by
  obtain ⟨vs, s2⟩ := adZ (s.imp (aaK (ρ := ρ) hg))
  have s3 := ho _ _ _ _ _ h ρ (pts (ρ.p id).1 (ρ.p id).2 vs :: X) vs B w (s2.perm (by
    show ((pts (ρ.p id).1 (ρ.p id).2 vs :: fsS (fS K ρ) fs vs) ++ (dH K ρ (del H id) ++ X)).Perm (fsS (fS K ρ) fs vs ++ (dH K ρ (del H id) ++ (pts (ρ.p id).1 (ρ.p id).2 vs :: X)))
    rw [← List.append_assoc, ← List.append_assoc]
    exact (List.perm_middle (l₁ := fsS (fS K ρ) fs vs ++ dH K ρ (del H id))).symm))
  have s4 : Sat B w ((pts (ρ.p id).1 (ρ.p id).2 vs :: fsS (pcS K) (K.vw c x) vs) ++ (dH K ρ H' ++ X)) := s3.perm (by
    rw [← List.append_assoc, List.cons_append, ← List.append_assoc]
    exact List.perm_middle)
  refine s4.imp fun k hk => ?_
  obtain ⟨k1, k2, a, e, g1, g2⟩ := aan.1 hk
  exact ⟨k1, k2, a, e, agD.2 ⟨vs, g1⟩, g2⟩
theorem anA {own : KT.H K → (c : Nat) → List (Fd K.T K.M) → Option (K.T c × KT.H K)} (ho : aqU K own) : aqV K (asE K own) := by
  intro H e v fl H' h ρ X B w s
  unfold asE at h
  split at h
  · split at h
    · rename_i hi
      split at h
      · rename_i hk
        cases h
        obtain rfl := aes hk
        exact abb s fun k => aaI.2 (show aap ρ v = _ from aeA hi)
      · cases h
    · cases h
  · split at h
    · rename_i hb; cases h; exact abb s fun k => aaI.2 (show aap ρ v = _ from agn hb)
    · cases h
  · cases h
  · rename_i c xs0
    split at h
    · rename_i id
      split at h
      · rename_i c' xs hg
        split at h
        · rename_i ys hy
          cases h
          obtain ⟨rfl, rfl⟩ := adr hy
          have hv := ae3 s (.inr hg)
          obtain ⟨h0, H0, t0⟩ := s
          have key : Sat B w (roS (acJ K c') (K.sz c') (ρ.s id).a (ρ.s id).c ys :: (dH K ρ H ++ X)) := by
            have : ∀ k, aba (dH K ρ H ++ X) k → aba (roS (acJ K c') (K.sz c') (ρ.s id).a (ρ.s id).c ys :: (dH K ρ H ++ X)) k := by
              intro k hk
              obtain ⟨j1, j2, a1, e1, ⟨_, m2⟩, mL⟩ := aaK (ρ := ρ) hg k hk
              obtain ⟨p, hp, hΦ⟩ := m2
              refine ⟨p, k, fun b o => ?_, ?_, ⟨p, fun b o x hx => ⟨(hp b o x hx).1, hx⟩, hΦ⟩, hk⟩
              · cases hpb : p b o with
                | none => exact .inl rfl
                | some x =>
                  obtain ⟨⟨v, rfl⟩, h2⟩ := hp b o x hpb
                  exact .inr (.inr ⟨v, rfl, by rw [e1]; unfold abO; rw [h2]⟩)
              · funext b o
                unfold abO
                cases hpb : p b o with
                | none => rfl
                | some x =>
                  obtain ⟨⟨v, rfl⟩, h2⟩ := hp b o x hpb
                  rw [e1]; unfold abO; rw [h2]
            exact ⟨h0, H0, this _ t0⟩
          exact aa0 (fun k hk => aaI.2 (show pcW K (obS K) (rwS K) (.ro c' ys) (aap ρ (.sl id)) k from ⟨_, _, hv, hk⟩)) key
        · cases h
      · rename_i c' xs hg
        split at h
        · rename_i ys hy
          split at h
          · rename_i hpl
            cases h
            obtain ⟨rfl, rfl⟩ := adr hy
            have hv := ae3 s (.inl hg)
            obtain ⟨hh, Hh, k1, k2, a, e, ⟨h1, h2⟩, hL⟩ := s.imp (aaK (ρ := ρ) hg)
            simp only [Bool.and_eq_true] at hpl
            have s2 : Sat B w (rwS K c' ys (ρ.s id).a (ρ.s id).c :: (dH K ρ (del H id) ++ X)) := ⟨hh, Hh, k1, k2, a, e, h2, hL⟩
            refine ((al6 hpl.1 (Nat.le_of_ble_eq_true hpl.2) s2).imp al8).imp fun k hk => ?_
            exact aaE (fun k hk => aaI.2 (show pcW K (obS K) (rwS K) (.ro c' ys) (aap ρ (.sl id)) k from ⟨_, _, hv, hk⟩)) (aa5 (fun k hk => aaE (fun k hk => ⟨h1, hk⟩) hk) hk)
          · cases h
        · cases h
      · cases h
    · cases h
      exact s.imp fun k hk => by
        have := apb (enc := acJ K c) (sz := K.sz c) (A := none) (c := 0) k hk
        exact aaE (fun k hk => aaI.2 (show pcW K (obS K) (rwS K) (.ro c []) (.slice none 0 0) k from ⟨none, 0, rfl, hk⟩)) this
    · cases h
  · rename_i c xs0
    split at h
    · rename_i id
      split at h
      · rename_i c' xs hg
        split at h
        · rename_i ys hy
          cases h
          obtain ⟨rfl, rfl⟩ := anm hy
          have hv : aap ρ (.sl id) = .slice (ρ.s id).a ys.length (ρ.s id).c := by
            rw [aap, aey (H := H) (m := ys.length) (by unfold amG; rw [hg]) s]
          obtain ⟨h0, H0, t0⟩ := s
          refine ⟨h0, H0, ?_⟩
          obtain ⟨j1, j2, a1, e1, ⟨m1, ps, m2⟩, mL⟩ := aaK (ρ := ρ) hg h0 t0
          obtain ⟨p, hp, hΦ⟩ := m2
          have hpp : ∀ b o x, p b o = some x → (∃ v, x = .look v) ∧ h0 b o = some x := fun b o x hx => ⟨(hp b o x hx).1, by rw [e1]; unfold abO; rw [(hp b o x hx).2]⟩
          refine ⟨p, h0, fun b o => ?_, ?_, aaI.2 (show pcW K (obS K) (rwS K) (.rr c' ys) (aap ρ (.sl id)) p from ⟨_, _, hv, ps, p, fun b o x hx => ⟨(hpp b o x hx).1, hx⟩, hΦ⟩), t0⟩
          · cases hpb : p b o with
            | none => exact .inl rfl
            | some x =>
              obtain ⟨⟨v, rfl⟩, h2⟩ := hpp b o x hpb
              exact .inr (.inr ⟨v, rfl, h2⟩)
          · funext b o
            unfold abO
            cases hpb : p b o with
            | none => rfl
            | some x => exact (hpp b o x hpb).2
        · cases h
      · rename_i c' xs hg
        split at h
        · rename_i hc hls
          cases h
          have hv := ae3 s (.inl hg)
          obtain ⟨hh, Hh, k1, k2, a, e, ⟨h1, h2⟩, hL⟩ := s.imp (aaK (ρ := ρ) hg)
          have s2 : Sat B w (rwS K c' xs (ρ.s id).a (ρ.s id).c :: (dH K ρ (del H id) ++ X)) := ⟨hh, Hh, k1, k2, a, e, h2, hL⟩
          obtain ⟨ps, s3⟩ := arj hls s2
          have hlen : (agm hc.down xs).length = xs.length := by rw [acQ, List.length_map]
          refine (s3.imp aha).imp fun k hk => ?_
          exact aaE (fun k hk => aaI.2 (show pcW K (obS K) (rwS K) (.rr c (agm hc.down xs)) (aap ρ (.sl id)) k from ⟨_, _, by rw [hv, hlen], ps, hk⟩)) (aa5 (fun k hk => aaE (fun k hk => ⟨by rw [h1, hlen], ps, hk⟩) hk) hk)
        · cases h
      · cases h
    · cases h
      exact s.imp fun k hk => by
        refine aaE (fun k hk => aaI.2 (show pcW K (obS K) (rwS K) (.rr c []) (.slice none 0 0) k from ⟨none, 0, rfl, [], ?_⟩)) (ahx k hk)
        exact acE (fun u _ => ⟨⟨by simp, by simp⟩, fun i ys hi => by cases hi⟩) k hk
    · cases h
  · rename_i c xs0
    split at h
    · rename_i id
      split at h
      · rename_i c' xs hg
        split at h
        · rename_i ys hy
          cases h
          obtain ⟨rfl, rfl⟩ := adr hy
          have hv := ae3 s (.inl hg)
          obtain ⟨hh, Hh, k1, k2, a, e, ⟨h1, h2⟩, hL⟩ := s.imp (aaK (ρ := ρ) hg)
          exact ⟨hh, Hh, k1, k2, a, e, aaI.2 (show pcW K (obS K) (rwS K) (.row c' ys) (aap ρ (.sl id)) k1 from ⟨_, _, hv, h2⟩), hL⟩
        · cases h
      · rename_i c' xs i o u hg
        split at h
        · rename_i ys hy
          obtain ⟨rfl, rfl⟩ := adr hy
          have fin : ∀ {f' : Fl K.T K.M} {x' : K.T c'} {L : List aag}, K.bk c' ((K.vw c' (atL (K.df c') ys i)).set o f') = some x' → Sat B w (aby K ρ id (.hole c' ys i o u) :: pcS K f' (aap ρ u) :: L) → Sat B w (pcS K (.row c' (ys.set i.toNat x')) (aap ρ (.sl id)) :: L) := by
            intro f' x' L hb s'
            refine aa0 (fun k hk => ?_) (alD (K.bk_ok _ _ _ hb) s')
            exact aaI.2 (show pcW K (obS K) (rwS K) (.row c' (ys.set i.toNat x')) (aap ρ (.sl id)) k from ⟨(ρ.s id).a, (ρ.s id).c, by rw [aap, hk.1], hk.2⟩)
          have s1 : Sat B w (dH K ρ (del H id) ++ (aby K ρ id (.hole c' ys i o u) :: X)) := (s.imp (aaK (ρ := ρ) hg)).perm (List.perm_middle (l₁ := dH K ρ (del H id))).symm
          split at h
          · rename_i c2 y0 _
            split at h
            · rename_i id2 p
              split at h
              · split at h
                · rename_i fs hg2
                  split at h
                  · rename_i y H2 hown
                    split at h
                    · rename_i x' hb
                      cases h
                      have s2 := akb ho hg2 hown s1
                      have s3 : Sat B w (pcS K (.own c2 y) (aap ρ (.ptr id2 0)) :: (dH K ρ H' ++ (aby K ρ id (.hole c' ys i o (.ptr id2 0)) :: X))) := aa0 (fun k hk => aaI.2 (show pcW K (obS K) (rwS K) (.own c2 y) (aap ρ (.ptr id2 0)) k from ⟨ρ.p id2, rfl, hk⟩)) s2
                      refine fin hb (s3.perm ?_)
                      exact (List.Perm.cons _ (List.perm_middle (l₁ := dH K ρ H'))).trans (List.Perm.swap ..)
                    · cases h
                  · cases h
                · cases h
              · cases h
            · cases h
          · split at h
            · rename_i id2
              split at h
              · rename_i m hg2
                split at h
                · rename_i x' hb
                  cases h
                  have s2 := s1.imp (aaK (ρ := ρ) hg2)
                  refine fin (f' := .mach m) hb (s2.perm ?_)
                  exact (List.Perm.cons _ (List.perm_middle (l₁ := dH K ρ (del (del H id) id2)))).trans (List.Perm.swap ..)
                · cases h
              · cases h
            · cases h
          · cases h
        · cases h
      · cases h
    · cases h
      have hr : ∀ k, rwS K c [] none 0 k := fun k => abL.2 ⟨[], fun _ _ => none, k, fun _ _ => .inl rfl, by funext x y; rfl, akQ _ _, trivial⟩
      exact abb s fun k => aaI.2 (show pcW K (obS K) (rwS K) (.row c []) (.slice none 0 0) k from ⟨none, 0, rfl, hr k⟩)
    · cases h
  · rename_i c x0
    split at h
    · rename_i id o
      split at h
      · split at h
        · rename_i fs hg
          split at h
          · rename_i x H2 hx
            cases h
            have s2 := akb ho hg hx s
            exact aa0 (fun k hk => aaI.2 (show pcW K (obS K) (rwS K) (.own c x) (aap ρ (.ptr id 0)) k from ⟨ρ.p id, rfl, hk⟩)) s2
          · cases h
        · cases h
      · cases h
    · cases h
  · split at h
    · rename_i hb; cases h; exact abb s fun _ => aaI.2 (show pcW K (obS K) (rwS K) .o (aap ρ v) _ from asV hb)
    · cases h
  · split at h
    · rename_i id
      split at h
      · rename_i m hg
        cases h
        exact s.imp (aaK (ρ := ρ) hg)
      · cases h
    · cases h
      exact abb s fun k => aaI.2 (by simp only [pcW, K.nilM_ok]; rfl)
    · rename_i t v
      split at h
      · rename_i id o
        split at h
        · split at h
          · rename_i c hkd
            split at h
            · rename_i fs hg
              split at h
              · rename_i x H2 hx
                split at h
                · rename_i m hm
                  cases h
                  have s2 := akb ho hg hx s
                  refine aa0 (fun k hk => aaI.2 ?_) s2
                  simp only [pcW, K.mkM_ok _ _ _ hm]
                  exact ⟨ρ.p id, by rw [K.kd_ok _ _ hkd]; rfl, hk⟩
                · cases h
              · cases h
            · cases h
          · cases h
        · cases h
      · cases h
    · cases h
theorem ac3 {A : List aag} : ∀ {L : List aag} {h : Hp}, aba (L ++ A) h → aba A h
  | [], _, s => s
  | _ :: _, h, s => ac3 (Ent.drop h s)
theorem afA {α : Type _} (A B X : List α) (p : α) : (A ++ (B ++ (p :: X))).Perm (p :: (A ++ (B ++ X))) := by
  rw [← List.append_assoc, ← List.append_assoc]; exact List.perm_middle
theorem ab2 {α : Type _} (A B X : List α) : (A ++ (B ++ X)).Perm (B ++ (A ++ X)) := by
  rw [← List.append_assoc, ← List.append_assoc]; exact List.perm_append_comm.append_right _
theorem aaN {B : Nat} {w : World} {L : List aag} {p : Prop} (s : Sat B w ((fun _ => False) :: L)) : p := by
  obtain ⟨_, _, _, _, _, _, hf, _⟩ := s; exact hf.elim
theorem aeI {a : KT.H K → Fl K.T K.M → V → Option (Fl K.T K.M × KT.H K)} (ha : aqV K a) : ∀ {H : KT.H K} {es : List (Fl K.T K.M)} {fs : List (Fd K.T K.M)} {l : List (Fl K.T K.M)} {H' : KT.H K}, ajU K a H es fs = some (l, H') →
    ∀ {ρ : Env} {X : List aag} {vs : List Value} {B : Nat} {w : World}, Sat B w (fsS (fS K ρ) fs vs ++ (dH K ρ H ++ X)) → Sat B w (fsS (pcS K) l vs ++ (dH K ρ H' ++ X))
  | H, [], [], l, H', h, ρ, X, vs, B, w, s => by
    cases h
    cases vs with
    | nil => exact s
    | cons v vs => exact aaN s
  | H, e :: es, .f x :: fs, l, H', h, ρ, X, vs, B, w, s => by
    unfold ajU at h
    split at h
    · rename_i l' H2 h2
      cases h
      cases vs with
      | nil => exact aaN s
      | cons v vs =>
        have s1 : Sat B w (fsS (fS K ρ) fs vs ++ (dH K ρ H ++ (pcS K x v :: X))) := s.perm (afA (fsS (fS K ρ) fs vs) (dH K ρ H) X (pcS K x v)).symm
        have s2 := aeI ha h2 s1
        exact s2.perm (afA (fsS (pcS K) l' vs) (dH K ρ H') X (pcS K x v))
    · cases h
  | H, e :: es, .v u :: fs, l, H', h, ρ, X, vs, B, w, s => by
    unfold ajU at h
    split at h
    · rename_i x H1 h1
      split at h
      · rename_i l' H2 h2
        cases h
        cases vs with
        | nil => exact aaN s
        | cons v vs =>
          have hv : v = aap ρ u := Sat.pure (show Sat B w (ag0 (v = aap ρ u) :: (fsS (fS K ρ) fs vs ++ (dH K ρ H ++ X))) from s)
          have s0 : Sat B w (fsS (fS K ρ) fs vs ++ (dH K ρ H ++ X)) := s.imp Ent.drop
          have s1 := ha _ _ _ _ _ h1 ρ (fsS (fS K ρ) fs vs ++ X) B w (s0.perm (ab2 (fsS (fS K ρ) fs vs) (dH K ρ H) X))
          have s2 : Sat B w (fsS (fS K ρ) fs vs ++ (dH K ρ H1 ++ (pcS K x v :: X))) := s1.perm (by
            rw [← hv]
            exact (List.Perm.cons _ (ab2 (dH K ρ H1) (fsS (fS K ρ) fs vs) X)).trans (afA (fsS (fS K ρ) fs vs) (dH K ρ H1) X (pcS K x v)).symm)
          have s3 := aeI ha h2 s2
          exact s3.perm (afA (fsS (pcS K) l' vs) (dH K ρ H') X (pcS K x v))
      · cases h
    · cases h
  | _, [], _ :: _, _, _, h, _, _, _, _, _, _ => by cases h
  | _, _ :: _, [], _, _, h, _, _, _, _, _, _ => by cases h
theorem anC : ∀ f, aqU K (asG K f)
  | 0 => fun _ _ _ _ _ h => by cases h
  | f + 1 => fun H c fs x H' h ρ X vs B w s => by
    unfold asG at h
    split at h
    · rename_i l H2 hl
      split at h
      · rename_i y hy
        cases h
        have := aeI (anA (anC f)) hl s
        rw [K.bk_ok _ _ _ hy]
        exact this
      · cases h
    · cases h
theorem ahO : aqV K (asm K) := anA (anC _)
end
theorem acn {sz : Nat} : ∀ {vss : List (List Value)}, (∀ vs ∈ vss, vs.length = sz) → vss.flatten.length = vss.length * sz
  | [], _ => by simp
  | vs :: vss, h => by
    rw [List.flatten_cons, List.length_append, acn (fun v hv => h v (List.mem_cons_of_mem _ hv)), h vs (List.mem_cons_self ..), List.length_cons, Nat.add_mul]; omega
theorem aeD {sz : Nat} : ∀ {vss : List (List Value)} {i o : Nat} {vs us : List Value}, (∀ vs ∈ vss, vs.length = sz) → vss[i]? = some vs → o + us.length ≤ sz →
    (vss.set i (vs.take o ++ us ++ vs.drop (o + us.length))).flatten = vss.flatten.take (i * sz + o) ++ us ++ vss.flatten.drop (i * sz + o + us.length)
  | [], i, o, vs, us, _, h, _ => by cases h
  | ws :: vss, 0, o, vs, us, hl, h, ho => by
    simp at h; subst h
    have h0 := hl ws (List.mem_cons_self ..)
    simp only [List.set_cons_zero, List.flatten_cons, Nat.zero_mul, Nat.zero_add]
    rw [List.take_append_of_le_length (by omega), List.drop_append_of_le_length (by omega)]
    simp only [List.append_assoc]
  | ws :: vss, i + 1, o, vs, us, hl, h, ho => by
    have h0 := hl ws (List.mem_cons_self ..)
    have ih := aeD (vss := vss) (i := i) (o := o) (vs := vs) (us := us) (fun v hv => hl v (List.mem_cons_of_mem _ hv)) (by simpa using h) ho
    simp only [List.set_cons_succ, List.flatten_cons]
    rw [ih, show (i + 1) * sz + o = ws.length + (i * sz + o) by rw [h0, Nat.add_mul]; omega]
    rw [List.take_length_add_append, Nat.add_assoc ws.length, List.drop_length_add_append]
    simp only [List.append_assoc]
theorem aeC {F : Type} {pc : F → Value → aag} : ∀ {a b : List F} {x y : List Value}, a.length = x.length → fsS pc (a ++ b) (x ++ y) = fsS pc a x ++ fsS pc b y
  | [], _, [], _, _ => rfl
  | f :: a, b, v :: x, y, h => by simp only [List.cons_append, fsS, aeC (a := a) (x := x) (by simpa using h)]
  | [], _, _ :: _, _, h => by cases h
  | _ :: _, _, [], _, h => by cases h
section
variable {P : Program} {B : Nat} {W : World}
theorem al5 {T : TypeId} {v : Value} {b o m c sz i k : Nat} {vs us : List Value} {w : World} {L : List aag} (s : Sat B w (acx (some ⟨b, o, none⟩) m c sz vs :: L)) (hb : Below B W w) (hl : B ≤ w.heap.size) (hT : P.cellsOf T = k) (hk : us.length = k) (hk0 : 0 < k) (hv : v.cells.toList = us) (ha : us.all abA = true) (hi : i + k ≤ vs.length) :
    ∃ w', (storeVar T ⟨b, o + i, none⟩ v).run P w = .ok () w' ∧ Cls B W (acx (some ⟨b, o, none⟩) m c sz (vs.take i ++ us ++ vs.drop (i + k)) :: L) w' := by
  obtain ⟨h, Hh, k1, k2, ap, e, ⟨h1, h2, h3, h4⟩, hM⟩ := s
  rcases h4 with ⟨h4, _⟩ | ⟨b', o', spare, hA, hsp, hp⟩
  · cases h4
  · cases hA
    have s' : Sat B w (pts b o (vs ++ spare) :: L) := ⟨h, Hh, k1, k2, ap, e, hp, hM⟩
    obtain ⟨w', hr, c1, c2, c3⟩ := agU (P := P) (T := T) (v := v) (W := W) (o' := o + i) (i := i) (k := k) (us := us) s' hb hl rfl hT hk hk0 hv ha (by rw [List.length_append]; omega)
    refine ⟨w', hr, c1, c2, c3.imp fun h => aaE fun h hq => ?_⟩
    have e1 : List.take i (vs ++ spare) ++ us ++ List.drop (i + k) (vs ++ spare) = (vs.take i ++ us ++ vs.drop (i + k)) ++ spare := by
      rw [List.take_append_of_le_length (by omega), List.drop_append_of_le_length (by omega)]
      simp only [List.append_assoc]
    rw [e1] at hq
    refine ⟨?_, h2, h3, .inr ⟨b, o, spare, rfl, hsp, hq⟩⟩
    rw [← h1]; simp only [List.length_append, List.length_take, List.length_drop]; omega
end
section
variable (K : KT)
def aqx (P : Program) (H : KT.H K) (T : TypeId) (x u : V) : Option (KT.H K) :=
  match x with
  | .ptr id o => match get H id with
    | some (.elt j i sz) => match get H j with
      | some (.row c xs) => match Nat.beq sz (K.sz c) && Nat.beq (P.cellsOf T) (aay u).length && Nat.blt 0 (aay u).length && Nat.ble (o + (aay u).length) sz && (aay u).all (scV (del H j)) with
        | true => match ajU K (asm K) (del H j) (((K.vw c (atL (K.df c) xs i)).drop o).take (aay u).length) ((aay u).map .v) with
          | some (l, H1) => match K.bk c ((K.vw c (atL (K.df c) xs i)).take o ++ l ++ (K.vw c (atL (K.df c) xs i)).drop (o + (aay u).length)) with
            | some x' => some ((j, .row c (xs.set i.toNat x')) :: H1)
            | none => none
          | none => none
        | false => none
      | _ => none
    | _ => none
  | _ => none
end
section
variable {K : KT} {P : Program} {nt n B : Nat} {W : World} {R : aaM} {Z H : KT.H K} {nx : Nat → KT.H K → V → Prop}
theorem ahh {a : KT.H K → Fl K.T K.M → V → Option (Fl K.T K.M × KT.H K)} : ∀ {H : KT.H K} {es : List (Fl K.T K.M)} {fs : List (Fd K.T K.M)} {l : List (Fl K.T K.M)} {H' : KT.H K}, ajU K a H es fs = some (l, H') → l.length = fs.length ∧ es.length = fs.length
  | H, [], [], l, H', h => by cases h; exact ⟨rfl, rfl⟩
  | H, e :: es, .f x :: fs, l, H', h => by
    unfold ajU at h
    split at h
    · rename_i h2; cases h; have := ahh h2; simp [this]
    · cases h
  | H, e :: es, .v u :: fs, l, H', h => by
    unfold ajU at h
    split at h
    · split at h
      · rename_i h2; cases h; have := ahh h2; simp [this]
      · cases h
    · cases h
  | _, [], _ :: _, _, _, h => by cases h
  | _, _ :: _, [], _, _, h => by cases h
theorem aj0 {o : Oper} {T : TypeId} {x y : Operand} {u v : V} {H' : KT.H K} (ho : o.op = .store T x y) (hx : evO R x = some u) (hy : evO R y = some v) (h : aqx K P H T u v = some H') (hn : nx n H' (.c undef)) : aco K P nt B W o R n Z H nx := fun F ρ a w s => by
  obtain ⟨d, op, ty, ps, af, g⟩ := o
  simp only at ho
  subst ho
  have ex := (aaA (ρ := ρ) hx).eval s.regs
  have ey := (aaA (ρ := ρ) hy).eval s.regs
  unfold aqx at h
  split at h
  · rename_i id o'
    split at h
    · rename_i j i sz hel
      split at h
      · rename_i c xs hg
        split at h
        · rename_i hB
          split at h
          · rename_i l H1 hl
            split at h
            · rename_i x' hbk
              cases h
              simp only [Bool.and_eq_true] at hB
              obtain ⟨⟨⟨⟨b0, b1⟩, b2⟩, b3⟩, b4⟩ := hB
              obtain rfl := Nat.eq_of_beq_eq_true b0
              have b1' := Nat.eq_of_beq_eq_true b1
              have b2' : 0 < (aay v).length := Nat.le_of_ble_eq_true b2
              have b3' := Nat.le_of_ble_eq_true b3
              obtain ⟨hi, b, o2, hA, hp⟩ := ajJ s.sat hel
              obtain ⟨hlen, vss, h2, h3, s2⟩ := aeM s.sat hg
              rw [hlen] at hi
              have hxi := abV (d := K.df c) hi
              have hlt : i.toNat < vss.length := by omega
              have hvs : vss[i.toNat]? = some vss[i.toNat] := List.getElem?_eq_getElem hlt
              have hvl := h3 _ (List.getElem_mem hlt)
              rw [hA] at s2
              -- what is stored
              have s3 : Sat B w (dH K ρ (del H j) ++ (acx (some ⟨b, o2, none⟩) xs.length (ρ.s j).c (K.sz c) vss.flatten :: (abj K (pcS K) c xs vss ++ tl K Z F ρ))) := s2.perm (by
                refine List.Perm.symm ?_
                refine (List.perm_middle (l₁ := dH K ρ (del H j))).trans (List.Perm.cons _ ?_)
                exact ab2 _ _ _)
              obtain ⟨hcl, hsc⟩ := agk b4 s3
              have hvlen : (aak ρ (aay v)).length = (aay v).length := by rw [aaJ]; simp
              have s4 := aeI ahO hl (ρ := ρ) (X := acx (some ⟨b, o2, none⟩) xs.length (ρ.s j).c (K.sz c) vss.flatten :: (abj K (pcS K) c xs vss ++ tl K Z F ρ)) (vs := aak ρ (aay v)) (s3.imp fun k hk => aeB hk)
              have s5 : Sat B w (acx (some ⟨b, o2, none⟩) xs.length (ρ.s j).c (K.sz c) vss.flatten :: (fsS (pcS K) l (aak ρ (aay v)) ++ (dH K ρ H1 ++ (abj K (pcS K) c xs vss ++ tl K Z F ρ)))) := s4.perm (afA _ _ _ _)
              obtain ⟨w', hr, c1, c2, c3⟩ := al5 (P := P) (T := T) (v := aap ρ v) (W := W) (i := i.toNat * K.sz c + o') (k := (aay v).length) (us := aak ρ (aay v)) s5 s.below s.lo b1' hvlen b2' hcl hsc (by
                rw [acn h3]
                have : (i.toNat + 1) * K.sz c ≤ vss.length * K.sz c := Nat.mul_le_mul_right _ hlt
                rw [Nat.add_mul] at this
                omega)
              have : (execOp a.eval ⟨d, .store T x y, ty, ps, af, g⟩).run P w = .ok .skip w' := by
                simp only [execOp, ex, ey, aap, Instr.storeAt, Instr.sureAddr, hp]
                rw [aae (a := ()) (w' := w') (by
                  rw [aae (a := (⟨b, o2 + i.toNat * K.sz c + o', none⟩ : Addr)) (w' := w) rfl]
                  rw [Nat.add_assoc]; exact hr)]
                rfl
              rw [this]
              refine ⟨⟨ρ, n, _, .c undef⟩, rfl, ⟨aat.refl _ _, Nat.le_refl _, rfl, hn⟩, c1, c2, ?_⟩
              rw [← hvlen] at c3
              rw [← aeD h3 hvs (by omega)] at c3
              -- put together again
              obtain ⟨M, p1, p2⟩ := aeg (pc := pcS K) hxi hvs
              refine c3.imp fun k hk => ?_
              obtain ⟨k1, k2, a', e', g1, g2⟩ := hk
              have g3 : aba ((fsS (pcS K) l (aak ρ (aay v)) ++ (fsS (pcS K) (K.vw c (atL (K.df c) xs i)) vss[i.toNat] ++ M)) ++ (dH K ρ H1 ++ tl K Z F ρ)) k2 := by
                refine abh ?_ g2
                rw [List.append_assoc]
                refine List.Perm.append_left _ ?_
                refine (ab2 _ _ _).trans ?_
                exact p1.append_right _
              have hes : (K.vw c (atL (K.df c) xs i)).length = (vss[i.toNat]).length := by rw [K.sz_ok, hvl]
              have hol : o' + (aay v).length ≤ (K.vw c (atL (K.df c) xs i)).length := by rw [K.sz_ok]; exact b3'
              have hll := (ahh hl).1
              rw [List.length_map] at hll
              -- the old cells' places in anT
              have e1 : fsS (pcS K) (K.vw c (atL (K.df c) xs i)) vss[i.toNat] = fsS (pcS K) ((K.vw c (atL (K.df c) xs i)).take o') ((vss[i.toNat]).take o') ++ (fsS (pcS K) (((K.vw c (atL (K.df c) xs i)).drop o').take (aay v).length) (((vss[i.toNat]).drop o').take (aay v).length) ++ fsS (pcS K) ((K.vw c (atL (K.df c) xs i)).drop (o' + (aay v).length)) ((vss[i.toNat]).drop (o' + (aay v).length))) := by
                conv => lhs; rw [← List.take_append_drop o' (K.vw c (atL (K.df c) xs i)), ← List.take_append_drop o' (vss[i.toNat]), aeC (by simp [hes])]
                conv => lhs; arg 2; rw [← List.take_append_drop (aay v).length ((K.vw c (atL (K.df c) xs i)).drop o'), ← List.take_append_drop (aay v).length ((vss[i.toNat]).drop o'), aeC (by simp [hes]), List.drop_drop, List.drop_drop]
              rw [e1] at g3
              have g4 : aba ((fsS (pcS K) ((K.vw c (atL (K.df c) xs i)).take o') ((vss[i.toNat]).take o') ++ (fsS (pcS K) l (aak ρ (aay v)) ++ (fsS (pcS K) ((K.vw c (atL (K.df c) xs i)).drop (o' + (aay v).length)) ((vss[i.toNat]).drop (o' + (aay v).length)) ++ M))) ++ (dH K ρ H1 ++ tl K Z F ρ)) k2 := by
                have g5 : aba (fsS (pcS K) (((K.vw c (atL (K.df c) xs i)).drop o').take (aay v).length) (((vss[i.toNat]).drop o').take (aay v).length) ++ ((fsS (pcS K) ((K.vw c (atL (K.df c) xs i)).take o') ((vss[i.toNat]).take o') ++ (fsS (pcS K) l (aak ρ (aay v)) ++ (fsS (pcS K) ((K.vw c (atL (K.df c) xs i)).drop (o' + (aay v).length)) ((vss[i.toNat]).drop (o' + (aay v).length)) ++ M))) ++ (dH K ρ H1 ++ tl K Z F ρ))) k2 := by
                  refine abh ?_ g3
                  simp only [List.append_assoc]
                  refine (ab2 _ _ _).trans ?_
                  refine (List.Perm.append_left _ (ab2 _ _ _)).trans ?_
                  exact ab2 _ _ _
                exact ac3 g5
              have e2 : fsS (pcS K) (K.vw c x') ((vss[i.toNat]).take o' ++ aak ρ (aay v) ++ (vss[i.toNat]).drop (o' + (aak ρ (aay v)).length)) = fsS (pcS K) ((K.vw c (atL (K.df c) xs i)).take o') ((vss[i.toNat]).take o') ++ (fsS (pcS K) l (aak ρ (aay v)) ++ fsS (pcS K) ((K.vw c (atL (K.df c) xs i)).drop (o' + (aay v).length)) ((vss[i.toNat]).drop (o' + (aay v).length))) := by
                rw [K.bk_ok _ _ _ hbk, List.append_assoc, List.append_assoc, aeC (by simp [hes]), aeC (by rw [hvlen, hll]), hvlen]
              have g6 : aba (abj K (pcS K) c (xs.set i.toNat x') (vss.set i.toNat ((vss[i.toNat]).take o' ++ aak ρ (aay v) ++ (vss[i.toNat]).drop (o' + (aak ρ (aay v)).length))) ++ (dH K ρ H1 ++ tl K Z F ρ)) k2 := by
                refine abh (((p2 x' _).append_right _).symm) ?_
                rw [e2]
                simpa only [List.append_assoc] using g4
              have g7 : aba ((acx (some ⟨b, o2, none⟩) (xs.set i.toNat x').length (ρ.s j).c (K.sz c) (vss.set i.toNat ((vss[i.toNat]).take o' ++ aak ρ (aay v) ++ (vss[i.toNat]).drop (o' + (aak ρ (aay v)).length))).flatten :: abj K (pcS K) c (xs.set i.toNat x') (vss.set i.toNat ((vss[i.toNat]).take o' ++ aak ρ (aay v) ++ (vss[i.toNat]).drop (o' + (aak ρ (aay v)).length)))) ++ (dH K ρ H1 ++ tl K Z F ρ)) k := ⟨k1, k2, a', e', by rw [List.length_set]; exact g1, g6⟩
              obtain ⟨j1, j2, a'', e'', q1, q2⟩ := aan.1 g7
              exact ⟨j1, j2, a'', e'', ⟨by rw [List.length_set]; exact hlen, abL.2 ⟨_, by rw [hA]; exact q1⟩⟩, q2⟩
            · cases h
          · cases h
        · cases h
      · cases h
    · cases h
  · cases h
end
theorem af4 : ∀ (us : List Value) (j off : Nat) (cs : Array Value), off + j + us.length ≤ cs.size →
    ((us.zipIdx j).foldl (fun cs (p : Value × Nat) => cs.setIfInBounds (off + p.2) p.1) cs).toList = cs.toList.take (off + j) ++ us ++ cs.toList.drop (off + j + us.length)
  | [], j, off, cs, _ => by simp
  | u :: us, j, off, cs, h => by
    simp only [List.length_cons] at h
    simp only [List.zipIdx_cons, List.foldl_cons, List.length_cons]
    rw [af4 us (j + 1) off _ (by simp; omega)]
    simp only [Array.toList_setIfInBounds]
    have hl : off + j < cs.toList.length := by simpa using (by omega : off + j < cs.size)
    rw [show off + (j + 1) = (off + j) + 1 by omega]
    have e1 : (cs.toList.set (off + j) u).take (off + j + 1) = cs.toList.take (off + j) ++ [u] := by
      rw [List.take_succ_eq_append_getElem (by simpa using hl), List.take_set_of_le (Nat.le_refl _)]
      simp
    have e2 : (cs.toList.set (off + j) u).drop (off + j + 1 + us.length) = cs.toList.drop (off + j + (us.length + 1)) := by
      rw [List.drop_set_of_lt (by omega)]; congr 1; omega
    rw [e1, e2]; simp
def alG {K : KT} (H : KT.H K) (pl : Nat → Option (Nat × Nat)) (cells : List V) : List (Nat × V) → Option (List V)
  | [] => some cells
  | (i, v) :: rest => match pl i with
    | some (off, size) => match Nat.beq (aay v).length size && Nat.ble (off + size) cells.length && (aay v).all (scV H) with
      | true => alG H pl (cells.take off ++ aay v ++ cells.drop (off + size)) rest
      | false => none
    | none => none
def aq0 (R : aaM) : List (Nat × Operand) → Option (List (Nat × V))
  | [] => some []
  | (i, x) :: l => match evO R x with
    | some v => match aq0 R l with
      | some vs => some ((i, v) :: vs)
      | none => none
    | none => none
section
variable {K : KT} {ρ : Env} {B : Nat} {w : World}
theorem aiO {R : aaM} : ∀ {l : List (Nat × Operand)} {vs : List (Nat × V)}, aq0 R l = some vs → EvalPs (dR ρ R) l (vs.map fun p => (p.1, aap ρ p.2))
  | [], vs, h => by cases h; exact .nil
  | (i, x) :: l, vs, h => by
    unfold aq0 at h
    split at h
    · rename_i hx
      split at h
      · rename_i hl; cases h; exact .cons (aaA hx) (aiO hl)
      · cases h
    · cases h
theorem ahb {H : KT.H K} {X : List aag} (s : Sat B w (dH K ρ H ++ X)) {pl : Nat → Option (Nat × Nat)} : ∀ {ps : List (Nat × V)} {cells out : List V}, alG H pl cells ps = some out →
    Instr.fill pl (aak ρ cells).toArray (ps.map fun p => (p.1, aap ρ p.2)) = some (aak ρ out).toArray ∧ out.length = cells.length
  | [], cells, out, h => by cases h; exact ⟨rfl, rfl⟩
  | (i, v) :: ps, cells, out, h => by
    unfold alG at h
    split at h
    · rename_i off size hp
      split at h
      · rename_i hB
        simp only [Bool.and_eq_true] at hB
        obtain ⟨⟨b1, b2⟩, b3⟩ := hB
        have b1' := Nat.eq_of_beq_eq_true b1
        have b2' := Nat.le_of_ble_eq_true b2
        obtain ⟨hc, _⟩ := agk b3 s
        obtain ⟨ih, hl⟩ := ahb s h
        have hlen : (aak ρ cells).length = cells.length := by rw [aaJ]; simp
        have hcl : (aap ρ v).cells.size = size := by
          have := congrArg List.length hc
          rw [aaJ] at this; simpa [b1'] using this
        refine ⟨?_, by rw [hl]; simp; omega⟩
        rw [List.map_cons, Instr.fill]
        simp only [hp, hcl]
        rw [if_neg (by simp [hlen]; omega)]
        rw [← ih]
        congr 1
        apply Array.ext'
        rw [← Array.foldl_toList, Array.toList_zipIdx, hc]
        have := af4 (aak ρ (aay v)) 0 off (aak ρ cells).toArray (by rw [aaJ (aay v)]; simp [hlen, b1']; omega)
        rw [Nat.add_zero] at this
        rw [this]
        simp [aaJ, b1']
      · cases h
    · cases h
end
def plS (P : Program) : List Field → Option (List (Nat × Nat))
  | [] => some []
  | f :: l => match P.info? f.type with
    | some i => match plS P l with
      | some r => some ((f.offset, i.size) :: r)
      | none => none
    | none => none
theorem amo {P : Program} {w : World} : ∀ {l : List Field} {r : List (Nat × Nat)}, plS P l = some r → (l.mapM (m := Sem) fun f => do pure (f.offset, ← sizeOf f.type)).run P w = .ok r w
  | [], r, h => by cases h; rfl
  | f :: l, r, h => by
    unfold plS at h
    split at h
    · rename_i i hi
      split at h
      · rename_i r' hr
        cases h
        rw [List.mapM_cons]
        have h1 : (sizeOf f.type).run P w = .ok i.size w := by unfold sizeOf; rw [aae (abn hi)]; rfl
        rw [aae (a := (f.offset, i.size)) (w' := w) (by rw [aae h1]; rfl), aae (amo hr)]
        rfl
      · cases h
    · cases h
section
variable (K : KT)
def ati (P : Program) (R : aaM) (H : KT.H K) (T : TypeId) (parts : List (Nat × Operand)) : Option V :=
  match P.underlying T with
  | some (.struct fs) => match ajV P T with
    | some z => match plS P fs.toList with
      | some pl => match aq0 R parts with
        | some ps => (alG H (fun i => pl[i]?) z ps).map .agg
        | none => none
      | none => none
    | none => none
  | some (.array _ E) => match ajV P T with
    | some z => match P.info? E with
      | some inf => match aq0 R parts with
        | some ps => (alG H (fun i => some (i * inf.size, inf.size)) z ps).map .agg
        | none => none
      | none => none
    | none => none
  | _ => none
def asv (P : Program) (R : aaM) (H : KT.H K) (T : TypeId) (m : Nat) (parts : List (Nat × Operand)) : Option (Nat × List V) :=
  match P.underlying T with
  | some (.slice E) => match P.info? E with
    | some inf => match inf.zero with
      | some z => match aq0 R parts with
        | some ps => match Nat.ble (m * inf.size) 16777216 && Nat.blt 0 (m * inf.size) with
          | true => (alG H (fun i => some (i * inf.size, inf.size)) (((Array.range (m * inf.size)).map (z.cells[· % z.cells.size]!)).toList.map anN) ps).map fun l => (inf.size, l)
          | false => none
        | none => none
      | none => none
    | none => none
  | _ => none
end
section
variable {K : KT} {P : Program} {ρ : Env} {B : Nat} {w : World}
theorem ahL (l : List Value) : aak ρ (l.map anN) = l := by
  rw [aaJ, List.map_map]
  have : (aap ρ ∘ anN) = id := by funext x; exact aeG ρ x
  rw [this, List.map_id]
theorem aqE {R : aaM} {H : KT.H K} {X : List aag} {T : TypeId} {parts : Array (Nat × Operand)} {v : V} {nt : Nat} {a : Act} (s : Sat B w (dH K ρ H ++ X)) (r : Regs nt a (dR ρ R)) (h : ati K P R H T parts.toList = some v) :
    ∀ w', (Instr.build T (parts.map fun (i, x) => (i, a.eval x))).run P w' = .ok (aap ρ v) w' := by
  intro w'
  unfold ati at h
  split at h
  · rename_i fs hU
    split at h
    · rename_i z hz
      split at h
      · rename_i pl hpl
        split at h
        · rename_i ps hps
          simp only [Option.map_eq_some_iff] at h
          obtain ⟨l, hl, rfl⟩ := h
          simp only [ajV, Option.map_eq_some_iff] at hz
          obtain ⟨zv, hz, rfl⟩ := hz
          have hf := (ahb s hl).1
          rw [ahL] at hf
          have e := (aiO (ρ := ρ) hps).eval r
          unfold Instr.build
          rw [aae (ag2 hz), aae (abp hU)]
          simp only
          have hfs : fs = fs.toList.toArray := by simp
          rw [hfs]
          simp only [List.mapM_toArray]
          rw [aae (a := pl.toArray) (w' := w') (by rw [map_eq_pure_bind]; exact aae (amo hpl))]
          simp only [Array.toList_map, e]
          have hf' : Instr.fill (fun i => pl.toArray[i]?) zv.cells (ps.map fun p => (p.1, aap ρ p.2)) = some (aak ρ l).toArray := by simpa using hf
          rw [hf']; rfl
        · cases h
      · cases h
    · cases h
  · rename_i E hU
    split at h
    · rename_i z hz
      split at h
      · rename_i inf hi
        split at h
        · rename_i ps hps
          simp only [Option.map_eq_some_iff] at h
          obtain ⟨l, hl, rfl⟩ := h
          simp only [ajV, Option.map_eq_some_iff] at hz
          obtain ⟨zv, hz, rfl⟩ := hz
          have hf := (ahb s hl).1
          rw [ahL] at hf
          have e := (aiO (ρ := ρ) hps).eval r
          unfold Instr.build
          rw [aae (ag2 hz), aae (abp hU)]
          simp only
          have h1 : (sizeOf E).run P w' = .ok inf.size w' := by unfold sizeOf; rw [aae (abn hi)]; rfl
          rw [aae h1]
          simp only [Array.toList_map, e]
          have hf' : Instr.fill (fun i => some (i * inf.size, inf.size)) zv.cells (ps.map fun p => (p.1, aap ρ p.2)) = some (aak ρ l).toArray := by simpa using hf
          rw [hf']; rfl
        · cases h
      · cases h
    · cases h
  · cases h
theorem am2 {R : aaM} {H : KT.H K} {X : List aag} {T : TypeId} {m sz : Nat} {parts : Array (Nat × Operand)} {l : List V} {nt : Nat} {a : Act} (s : Sat B w (dH K ρ H ++ X)) (r : Regs nt a (dR ρ R)) (h : asv K P R H T m parts.toList = some (sz, l)) :
    ∃ E, l.length = m * sz ∧ m ≤ maxLen ∧ (Instr.buildSlice T m (parts.map fun (i, x) => (i, a.eval x))).run P w = .ok (.slice (some ⟨w.heap.size, 0, none⟩) m m) (w.alloc (.cells (aak ρ l).toArray E)) := by
  unfold asv at h
  split at h
  · rename_i E hU
    split at h
    · rename_i inf hi
      split at h
      · rename_i z hz
        split at h
        · rename_i ps hps
          split at h
          · rename_i hB
            simp only [Option.map_eq_some_iff, Prod.mk.injEq] at h
            obtain ⟨l', hl, rfl, rfl⟩ := h
            simp only [Bool.and_eq_true] at hB
            have b1 := Nat.le_of_ble_eq_true hB.1
            have b2 : 0 < m * inf.size := Nat.le_of_ble_eq_true hB.2
            obtain ⟨hf, hlen⟩ := ahb s hl
            rw [ahL] at hf
            have e := (aiO (ρ := ρ) hps).eval r
            have hs0 : 0 < inf.size := Nat.pos_of_mul_pos_left b2
            refine ⟨E, by rw [hlen]; simp, ?_, ?_⟩
            · have : m * 1 ≤ m * inf.size := Nat.mul_le_mul_left _ hs0
              unfold maxLen; omega
            · unfold Instr.buildSlice
              rw [aae (abp hU)]
              simp only
              have h1 : (sizeOf E).run P w = .ok inf.size w := by unfold sizeOf; rw [aae (abn hi)]; rfl
              rw [aae h1]
              rw [if_neg (by omega)]
              have h2 : (zeroValue E).run P w = .ok z w := by unfold zeroValue; rw [aae (abn hi)]; simp only [hz]; rfl
              simp only [Array.toList_map, e]
              have hf' : Instr.fill (fun i => some (i * inf.size, inf.size)) ((Array.range (m * inf.size)).map (z.cells[· % z.cells.size]!)) (ps.map fun p => (p.1, aap ρ p.2)) = some (aak ρ l').toArray := by
                rw [← hf, Array.toArray_toList]
              simp only [if_neg (show ¬ m * inf.size = 0 by omega)]
              rw [aae h2]
              show (Sem.run P _ w) = _
              simp only [pure_bind, hf']
              unfold newRow newObj
              simp [Sem.run, World.alloc_eq]
          · cases h
        · cases h
      · cases h
    · cases h
  · cases h
end
def amO (P : Program) (T : TypeId) : Bool := match P.underlying T with
  | some (.interface _) => true
  | _ => false
theorem amN {P : Program} {T : TypeId} (h : amO P T = true) : ∃ ms, P.underlying T = some (.interface ms) := by
  unfold amO at h
  split at h
  · rename_i ms hu; exact ⟨ms, hu⟩
  · cases h
section
variable {P : Program} {T : TypeId} {ms : Array (String × TypeId)}
theorem ajI (tp : TypeId) (v : Value) (hi : P.underlying T = some (.interface ms)) (w : World) : (Op.equal T (.iface tp v) .nilIface).run P w = .ok false w := by
  have h : ∀ d : Nat, (Op.equalIn (d + 1) T (.iface tp v) .nilIface).run P w = .ok false w := fun d => by simp [Op.equalIn, run_underlying hi]
  simp [Op.equal, Op.maxDepth, h 9999]
theorem alH (hi : P.underlying T = some (.interface ms)) (w : World) : (Op.equal T .nilIface .nilIface).run P w = .ok true w := by
  have h : ∀ d : Nat, (Op.equalIn (d + 1) T .nilIface .nilIface).run P w = .ok true w := fun d => by simp [Op.equalIn, run_underlying hi]
  simp [Op.equal, Op.maxDepth, h 9999]
def anO (op : BinOp) (r : Bool) : Bool := match op with
  | .neq => !r
  | _ => r
theorem alx {op : BinOp} {r : Bool} {ev : Operand → Value} {x : Operand} {v : Value} (hop : op = .eql ∨ op = .neq) (hx : ev x = v) (hv : ∀ w, (Op.equal T v .nilIface).run P w = .ok r w) (hn : v = .nilIface ∨ ∃ t u, v = .iface t u)
    {d : Option Tmp} {ty : TypeId} {ps : String} {af : Array Edge} {g : Option (Nat × Bool)} {T' : TypeId} (hev : ev (.const .nilIface) = .nilIface) (w : World) :
    (execOp ev ⟨d, .binOp op T x (.const .nilIface) T', ty, ps, af, g⟩).run P w = .ok (.value (.bool (anO op r))) w := by
  have h1 : (eqGuard op T x (.const .nilIface) v .nilIface).run P w = .ok () w := by
    rcases hop with rfl | rfl <;> rcases hn with rfl | ⟨t, u, rfl⟩ <;> simp [eqGuard]
  have h2 : (binOp op T v .nilIface).run P w = .ok (.bool (anO op r)) w := by
    rcases hop with rfl | rfl <;> rcases hn with rfl | ⟨t, u, rfl⟩ <;> (simp only [binOp]; rw [aae (hv w)]; rfl)
  simp only [execOp, hx, hev]
  rw [aae ((aae h1).trans h2)]
  rfl
end
def atD (P : Program) (T : TypeId) : Bool := match P.underlying T with
  | some (.pointer _) => true
  | _ => false
theorem ahZ {P : Program} {T e : TypeId} {op : BinOp} {ev : Operand → Value} {x : Operand} {p : Option Addr} (hop : op = .eql ∨ op = .neq) (hx : ev x = .pointer p) (hT : P.underlying T = some (.pointer e))
    {d : Option Tmp} {ty : TypeId} {ps : String} {af : Array Edge} {g : Option (Nat × Bool)} {T' : TypeId} (hev : ev (.const (.pointer none)) = .pointer none) (w : World) :
    (execOp ev ⟨d, .binOp op T x (.const (.pointer none)) T', ty, ps, af, g⟩).run P w = .ok (.value (.bool (anO op p.isNone))) w := by
  have h0 : (Op.equal T (.pointer p) (.pointer none)).run P w = .ok p.isNone w := by
    have h : ∀ d : Nat, (Op.equalIn (d + 1) T (.pointer p) (.pointer none)).run P w = .ok p.isNone w := fun d => by
      cases p <;> simp [Op.equalIn, run_underlying hT]
    simp [Op.equal, Op.maxDepth, h 9999]
  have h1 : (eqGuard op T x (.const (.pointer none)) (.pointer p) (.pointer none)).run P w = .ok () w := by
    rcases hop with rfl | rfl <;> simp [eqGuard]
  have h2 : (binOp op T (.pointer p) (.pointer none)).run P w = .ok (.bool (anO op p.isNone)) w := by
    rcases hop with rfl | rfl <;> (simp only [binOp]; rw [aae h0]; rfl)
  simp only [execOp, hx, hev]
  rw [aae ((aae h1).trans h2)]
  rfl
def atp (op : BinOp) : Bool := match op with
  | .eql => true
  | .neq => true
  | _ => false
theorem am3 {op : BinOp} (h : atp op = true) : op = .eql ∨ op = .neq := by
  cases op <;> first | (exact .inl rfl) | (exact .inr rfl) | cases h
section
variable (K : KT)
def ata (P : Program) (R : aaM) (H : KT.H K) (op : BinOp) (T : TypeId) (x y : Operand) : Option V :=
  match y with
  | .const u => match u with
    | .nilIface => match amO P T && atp op with
      | true => match evO R x with
        | some (.mc id) => match get H id with
          | some (.mach m) => some (.b (anO op (K.spl m).isNone))
          | _ => none
        | some (.c v) => match v with
          | .nilIface => some (.t (anO op true))
          | _ => none
        | some (.ifc _ _) => some (.t (anO op false))
        | _ => none
      | false => none
    | .pointer none => match atD P T && atp op with
      | true => match evO R x with
        | some (.ptr _ _) => some (.t (anO op false))
        | some (.c v) => match v with
          | .pointer none => some (.t (anO op true))
          | _ => none
        | _ => none
      | false => none
    | _ => none
  | _ => none
end
section
variable {K : KT} {P : Program} {ρ : Env} {B : Nat} {w : World}
theorem aoo {H : KT.H K} {id : Nat} {m : K.M} {X : List aag} (hg : get H id = some (.mach m)) (s : Sat B w (dH K ρ H ++ X)) : ((K.spl m).isNone = true ∧ ρ.v id = .nilIface) ∨ ((K.spl m).isNone = false ∧ ∃ t u, ρ.v id = .iface t u) := by
  obtain ⟨h, Hh, k1, k2, a, e, hA, hL⟩ := s.imp (aaK (ρ := ρ) hg)
  have hA' : pcS K (.mach m) (ρ.v id) k1 := hA
  rw [aaI] at hA'
  have hB : (match K.spl m with
    | none => ρ.v id = .nilIface
    | some p => ∃ q : Nat × Nat, ρ.v id = .iface (K.tid p.1) (.pointer (some ⟨q.1, q.2, none⟩)) ∧ obS K p.1 p.2 q k1) := hA'
  cases hs : K.spl m with
  | none => rw [hs] at hB; exact .inl ⟨rfl, hB⟩
  | some p => rw [hs] at hB; obtain ⟨q, hq, _⟩ := hB; exact .inr ⟨rfl, _, _, hq⟩
theorem aqz {R : aaM} {H : KT.H K} {X : List aag} {op : BinOp} {T T' : TypeId} {x y : Operand} {v : V} (h : ata K P R H op T x y = some v) (s : Sat B w (dH K ρ H ++ X)) {nt : Nat} {a : Act} (r : Regs nt a (dR ρ R))
    {d : Option Tmp} {ty : TypeId} {ps : String} {af : Array Edge} {g : Option (Nat × Bool)} (w' : World) : (execOp a.eval ⟨d, .binOp op T x y T', ty, ps, af, g⟩).run P w' = .ok (.value (aap ρ v)) w' := by
  unfold ata at h
  split at h
  · split at h
    · split at h
      · rename_i hB
        simp only [Bool.and_eq_true] at hB
        obtain ⟨ms, hu⟩ := amN hB.1
        have hop := am3 hB.2
        have fin : ∀ {u : V} {b : Bool}, evO R x = some u → (aap ρ u = .nilIface ∧ b = true ∨ (∃ t z, aap ρ u = .iface t z) ∧ b = false) → (execOp a.eval ⟨d, .binOp op T x (.const .nilIface) T', ty, ps, af, g⟩).run P w' = .ok (.value (.bool (anO op b))) w' := fun {u b} hx hu' => by
          have ex := (aaA (ρ := ρ) hx).eval r
          refine alx hop ex (r := b) ?_ ?_ rfl w'
          · rcases hu' with ⟨e, rfl⟩ | ⟨⟨t, z, e⟩, rfl⟩
            · rw [e]; exact alH hu
            · rw [e]; exact ajI t z hu
          · rcases hu' with ⟨e, _⟩ | ⟨⟨t, z, e⟩, _⟩
            · exact .inl e
            · exact .inr ⟨t, z, e⟩
        split at h
        · rename_i id hx
          split at h
          · rename_i m hg
            cases h
            refine fin hx ?_
            rcases aoo hg s with ⟨e1, e2⟩ | ⟨e1, e2⟩
            · exact .inl ⟨e2, e1⟩
            · exact .inr ⟨e2, e1⟩
          · cases h
        · rename_i u hx
          split at h
          · cases h; exact fin hx (.inl ⟨rfl, rfl⟩)
          · cases h
        · rename_i t u hx
          cases h
          exact fin hx (.inr ⟨⟨_, _, rfl⟩, rfl⟩)
        · cases h
      · cases h
    · split at h
      · rename_i hB
        simp only [Bool.and_eq_true] at hB
        have hT : ∃ e, P.underlying T = some (.pointer e) := by
          have := hB.1
          unfold atD at this
          split at this
          · rename_i e hu; exact ⟨e, hu⟩
          · cases this
        obtain ⟨e, hT⟩ := hT
        have hop := am3 hB.2
        split at h
        · rename_i id o hx
          cases h
          have ex := (aaA (ρ := ρ) hx).eval r
          exact ahZ hop ex hT rfl w'
        · rename_i u hx
          split at h
          · cases h
            have ex := (aaA (ρ := ρ) hx).eval r
            exact ahZ hop ex hT rfl w'
          · cases h
        · cases h
      · cases h
    · cases h
  · cases h
end
def atf (P : Program) (R : aaM) (T : TypeId) (x : Operand) (f : Nat) : Option V :=
  match evO R x with
  | some (.agg l) => match P.underlying T with
    | some (.struct fields) => match fields[f]? with
      | some fd => match acT P fd.type with
        | some none => l[fd.offset]?
        | _ => none
      | none => none
    | _ => none
  | _ => none
theorem aqD {P : Program} {ρ : Env} {R : aaM} {T : TypeId} {x : Operand} {f : Nat} {v : V} (h : atf P R T x f = some v) {nt : Nat} {a : Act} (r : Regs nt a (dR ρ R))
    {d : Option Tmp} {ty : TypeId} {ps : String} {af : Array Edge} {g : Option (Nat × Bool)} (w : World) : (execOp a.eval ⟨d, .field T x f, ty, ps, af, g⟩).run P w = .ok (.value (aap ρ v)) w := by
  unfold atf at h
  split at h
  · rename_i l hx
    have ex := (aaA (ρ := ρ) hx).eval r
    split at h
    · rename_i fields hu
      split at h
      · rename_i fd hf
        split at h
        · rename_i ha
          have h1 : (part fd.type (aak ρ l).toArray fd.offset).run P w = .ok (aap ρ v) w := by
            unfold part
            rw [aae (ajD ha)]
            have h2 : (aak ρ l).toArray[fd.offset]? = some (aap ρ v) := by
              rw [aaJ]; simp [h]
            rw [h2]
            rfl
          have h3 : (Instr.field T (.agg (aak ρ l).toArray) f).run P w = .ok (aap ρ v) w := by
            unfold Instr.field
            rw [aae (run_underlying hu w)]
            simp only [hf]
            rw [aae (show (asAgg (.agg (aak ρ l).toArray)).run P w = .ok (aak ρ l).toArray w from rfl)]
            exact h1
          simp only [execOp, ex, aap]
          rw [aae h3]; rfl
        · cases h
      · cases h
    · cases h
  · cases h
def atk (P : Program) (R : aaM) (T : TypeId) (x y : Operand) : Option V :=
  match evO R x with
  | some (.ptr id o) => match P.underlying T with
    | some (.array len elem) => match evO R y with
      | some u => match afD u with
        | some (_, j, l) => match P.info? elem with
          | some inf => match l && nnL j && Nat.blt j.toNat len with
            | true => some (.ptr id (o + j.toNat * inf.size))
            | false => none
          | none => none
        | none => none
      | none => none
    | _ => none
  | some (.vw id o m _) => match adq P T with
    | some sz => match evO R y with
      | some u => match afD u with
        | some (_, j, l) => match l && nnL j && Nat.blt j.toNat m with
          | true => some (.ptr id (o + j.toNat * sz))
          | false => none
        | none => none
      | none => none
    | none => none
  | _ => none
theorem aqF {P : Program} {ρ : Env} {R : aaM} {T : TypeId} {x y : Operand} {v : V} (h : atk P R T x y = some v) {nt : Nat} {a : Act} (r : Regs nt a (dR ρ R))
    {d : Option Tmp} {ty : TypeId} {ps : String} {af : Array Edge} {g : Option (Nat × Bool)} (w : World) : (execOp a.eval ⟨d, .indexAddr T x y, ty, ps, af, g⟩).run P w = .ok (.value (aap ρ v)) w := by
  unfold atk at h
  split at h
  · rename_i id o hx
    have ex := (aaA (ρ := ρ) hx).eval r
    split at h
    · rename_i len elem hu
      split at h
      · rename_i u hy
        split at h
        · rename_i k j l hi
          have ey := (abf (ρ := ρ) hy hi).eval r
          split at h
          · rename_i inf hinf
            split at h
            · rename_i hB
              cases h
              simp only [Bool.and_eq_true] at hB
              have hlt := Nat.le_of_ble_eq_true hB.2
              have hnn := ahv hB.1.2
              have h1 : 0 ≤ j ∧ j < (len : Int) := by omega
              have h2 : (Instr.indexAt T (.pointer (some ⟨(ρ.p id).1, (ρ.p id).2 + o, none⟩)) (.int k j)).run P w = .ok (.pointer (some ⟨(ρ.p id).1, (ρ.p id).2 + (o + j.toNat * inf.size), none⟩)) w := by
                simp [Instr.indexAt, asIntOf, abp hu, sizeOf, abn hinf, h1, Instr.sureAddr, abd, Nat.add_assoc]
              simp only [execOp, ex, ey, aap]
              rw [aae h2]; rfl
            · cases h
          · cases h
        · cases h
      · cases h
    · cases h
  · rename_i id o m c hx
    have ex := aaA (ρ := ρ) hx
    split at h
    · rename_i sz hsz
      split at h
      · rename_i u hy
        split at h
        · rename_i k j l hi
          have ey := abf (ρ := ρ) hy hi
          split at h
          · rename_i hB
            cases h
            simp only [Bool.and_eq_true] at hB
            have hlt := Nat.le_of_ble_eq_true hB.2
            have hnn := ahv hB.1.2
            exact (aet (P := P) (n := nt) (d := d) (ty := ty) (ps := ps) (af := af) (g := g) (i := j.toNat) (o' := (ρ.p id).2 + (o + j.toNat * sz)) ex ey (Int.toNat_of_nonneg hnn).symm hlt hsz (by omega)) a w r
          · cases h
        · cases h
      · cases h
    · cases h
  · cases h
def ar8 (R : aaM) : Option Operand → Int → Option (Int × Bool)
  | none, d => some (d, true)
  | some y, _ => match evO R y with
    | some u => match afD u with
      | some (_, j, l) => some (j, l)
      | none => none
    | none => none
theorem amY {ρ : Env} {R : aaM} {y : Option Operand} {d j : Int} {l : Bool} (h : ar8 R y d = some (j, l)) : (y = none ∧ j = d) ∨ ∃ x k, y = some x ∧ EvalR (dR ρ R) x (.int k j) := by
  cases y with
  | none => simp only [ar8, Option.some.injEq, Prod.mk.injEq] at h; exact .inl ⟨rfl, h.1.symm⟩
  | some x =>
    simp only [ar8] at h
    split at h
    · rename_i u hu
      split at h
      · rename_i k j' l' hi
        cases h
        exact .inr ⟨x, k, rfl, abf hu hi⟩
      · cases h
    · cases h
def as6 (P : Program) (R : aaM) (T : TypeId) (x : Operand) (lo hi : Option Operand) : Option V :=
  match evO R x with
  | some (.ptr id o) => match P.underlying T with
    | some (.array len elem) => match ar8 R lo 0 with
      | some (j, l) => match ar8 R hi ((len : Nat) : Int) with
        | some (k, l') => match P.info? elem with
          | some inf => match l && l' && (nnL j && nnL k) && (Nat.ble j.toNat k.toNat && Nat.ble k.toNat len && Nat.blt j.toNat len) with
            | true => some (.vw id (o + j.toNat * inf.size) (k.toNat - j.toNat) (len - j.toNat))
            | false => none
          | none => none
        | none => none
      | none => none
    | _ => none
  | _ => none
theorem aqu {P : Program} {ρ : Env} {R : aaM} {T : TypeId} {x : Operand} {lo hi : Option Operand} {v : V} (h : as6 P R T x lo hi = some v) {nt : Nat} {a : Act} (r : Regs nt a (dR ρ R))
    {d : Option Tmp} {ty : TypeId} {ps : String} {af : Array Edge} {g : Option (Nat × Bool)} (w : World) : (execOp a.eval ⟨d, .slice T x lo hi none, ty, ps, af, g⟩).run P w = .ok (.value (aap ρ v)) w := by
  unfold as6 at h
  split at h
  · rename_i id o hx
    have ex := (aaA (ρ := ρ) hx).eval r
    split at h
    · rename_i len elem hu
      split at h
      · rename_i j l hlo
        split at h
        · rename_i k l' hhi
          split at h
          · rename_i inf hinf
            split at h
            · rename_i hB
              cases h
              simp only [Bool.and_eq_true] at hB
              obtain ⟨⟨_, hj, hk⟩, ⟨b1, b2⟩, b3⟩ := hB
              have hj0 := ahv hj
              have hk0 := ahv hk
              have b1 := Nat.le_of_ble_eq_true b1
              have b2 := Nat.le_of_ble_eq_true b2
              have b3 := Nat.le_of_ble_eq_true b3
              have h1 : (Instr.sliceBounds false len len (lo.map a.eval) (hi.map a.eval) none).run P w = .ok (j.toNat, k.toNat, len) w := by
                have c1 : (0 : Int) ≤ j ∧ j ≤ ((k.toNat : Nat) : Int) := by omega
                have c2 : (0 : Int) ≤ k ∧ k ≤ (len : Int) := by omega
                unfold Instr.sliceBounds
                rcases amY (ρ := ρ) hlo with ⟨rfl, rfl⟩ | ⟨y, ky, rfl, ey⟩ <;> rcases amY (ρ := ρ) hhi with ⟨rfl, rfl⟩ | ⟨z, kz, rfl, ez⟩
                · simp
                · simp [ez.eval r, Instr.sliceBound, asIntOf, c2]
                · simp [ey.eval r, Instr.sliceBound, asIntOf, c1]
                  omega
                · simp [ey.eval r, ez.eval r, Instr.sliceBound, asIntOf, c1, c2]
                  intro h9; omega
              have h2 : (Instr.sliceAt T (.pointer (some ⟨(ρ.p id).1, (ρ.p id).2 + o, none⟩)) (lo.map a.eval) (hi.map a.eval) (none.map a.eval)).run P w = .ok (.slice (some ⟨(ρ.p id).1, (ρ.p id).2 + (o + j.toNat * inf.size), none⟩) (k.toNat - j.toNat) (len - j.toNat)) w := by
                unfold Instr.sliceAt
                rw [aae (abp hu)]
                simp only [Option.map_none]
                rw [aae (show (Instr.sureAddr (.pointer (some ⟨(ρ.p id).1, (ρ.p id).2 + o, none⟩))).run P w = .ok ⟨(ρ.p id).1, (ρ.p id).2 + o, none⟩ w from rfl)]
                rw [aae h1]
                simp only
                have h3 : (sizeOf elem).run P w = .ok inf.size w := by
                  simp [sizeOf, abn hinf]
                rw [aae h3]
                rw [if_neg (by omega)]
                simp [Addr.add, Nat.add_assoc]
              simp only [execOp, ex, aap]
              rw [aae h2]; rfl
            · cases h
          · cases h
        · cases h
      · cases h
    · cases h
  · cases h
def as7 (P : Program) (R : aaM) (T : TypeId) (x : Operand) (lo hi : Option Operand) : Option (List Gd × V) :=
  match lo with
  | some _ => none
  | none => match hi with
    | none => none
    | some y => match evO R x with
      | some (.ptr id o) => match P.underlying T with
        | some (.array len elem) => match evO R y with
          | some u => match afD u with
            | some (_, k, _) => match P.info? elem with
              | some _ => match Nat.blt 0 len with
                | true => some ([⟨0 ≤ k ∧ k ≤ ((len : Nat) : Int), inferInstance⟩], .vs id o k len)
                | false => none
              | none => none
            | none => none
          | none => none
        | _ => none
      | _ => none
theorem aqv {P : Program} {ρ : Env} {R : aaM} {T : TypeId} {x : Operand} {lo hi : Option Operand} {gs : List Gd} {v : V} (h : as7 P R T x lo hi = some (gs, v)) (hg : ∀ g ∈ gs, g.P) {nt : Nat} {a : Act} (r : Regs nt a (dR ρ R))
    {d : Option Tmp} {ty : TypeId} {ps : String} {af : Array Edge} {g : Option (Nat × Bool)} (w : World) : (execOp a.eval ⟨d, .slice T x lo hi none, ty, ps, af, g⟩).run P w = .ok (.value (aap ρ v)) w := by
  unfold as7 at h
  split at h
  · cases h
  · split at h
    · cases h
    · rename_i y
      split at h
      · rename_i id o hx
        have ex := (aaA (ρ := ρ) hx).eval r
        split at h
        · rename_i len elem hu
          split at h
          · rename_i u hy
            split at h
            · rename_i kk k l hi
              have ey := (abf (ρ := ρ) hy hi).eval r
              split at h
              · rename_i inf hinf
                split at h
                · rename_i hB
                  cases h
                  have hlt := Nat.le_of_ble_eq_true hB
                  have hk : 0 ≤ k ∧ k ≤ ((len : Nat) : Int) := hg _ (List.mem_singleton.2 rfl)
                  have h1 : (Instr.sliceBounds false len len none (some (.int kk k)) none).run P w = .ok (0, k.toNat, len) w := by
                    unfold Instr.sliceBounds
                    simp [Instr.sliceBound, asIntOf, hk]
                  have h2 : (Instr.sliceAt T (.pointer (some ⟨(ρ.p id).1, (ρ.p id).2 + o, none⟩)) none (some (.int kk k)) none).run P w = .ok (.slice (some ⟨(ρ.p id).1, (ρ.p id).2 + o, none⟩) k.toNat len) w := by
                    unfold Instr.sliceAt
                    rw [aae (abp hu)]
                    rw [aae (show (Instr.sureAddr (.pointer (some ⟨(ρ.p id).1, (ρ.p id).2 + o, none⟩))).run P w = .ok ⟨(ρ.p id).1, (ρ.p id).2 + o, none⟩ w from rfl)]
                    rw [aae h1]
                    simp only
                    have h3 : (sizeOf elem).run P w = .ok inf.size w := by
                      simp [sizeOf, abn hinf]
                    rw [aae h3]
                    rw [if_neg (by omega)]
                    simp [Addr.add]
                  simp only [execOp, ex, aap, Option.map_none, Option.map_some, ey]
                  rw [aae h2]; rfl
                · cases h
              · cases h
            · cases h
          · cases h
        · cases h
      · cases h
def as8 (P : Program) (R : aaM) (T : TypeId) (x y : Operand) : Option (List Gd × V) :=
  match evO R x with
  | some (.c (.string s)) => match P.underlying T with
    | some .string => match evO R y with
      | some u => match afD u with
        | some (_, j, _) => some ([⟨0 ≤ j ∧ j < ((s.size : Nat) : Int), inferInstance⟩], .i .u8 (((s[j.toNat]?).map fun b => ((b.toNat : Nat) : Int)).getD 0))
        | none => none
      | none => none
    | _ => none
  | _ => none
theorem aqw {P : Program} {ρ : Env} {R : aaM} {T : TypeId} {x y : Operand} {gs : List Gd} {v : V} (h : as8 P R T x y = some (gs, v)) (hg : ∀ g ∈ gs, g.P) {nt : Nat} {a : Act} (r : Regs nt a (dR ρ R))
    {d : Option Tmp} {ty : TypeId} {ps : String} {af : Array Edge} {g : Option (Nat × Bool)} (w : World) : (execOp a.eval ⟨d, .index T x y, ty, ps, af, g⟩).run P w = .ok (.value (aap ρ v)) w := by
  unfold as8 at h
  split at h
  · rename_i s hx
    have ex := (aaA (ρ := ρ) hx).eval r
    split at h
    · rename_i hu
      split at h
      · rename_i u hy
        split at h
        · rename_i kk j l hi
          have ey := (abf (ρ := ρ) hy hi).eval r
          cases h
          have hj : 0 ≤ j ∧ j < ((s.size : Nat) : Int) := hg _ (List.mem_singleton.2 rfl)
          have hlt : j.toNat < s.size := by omega
          have h2 : (Instr.index T (.string s) (.int kk j)).run P w = .ok (.int .u8 (((s[j.toNat]?).map fun b => ((b.toNat : Nat) : Int)).getD 0)) w := by
            unfold Instr.index
            simp [asIntOf, abp hu, hj.1, hlt]
          simp only [execOp, ex, ey, aap]
          rw [aae h2]; rfl
        · cases h
      · cases h
    · cases h
  · cases h
end
end Go.Proofs.Ytkmkhldmflebkaa
