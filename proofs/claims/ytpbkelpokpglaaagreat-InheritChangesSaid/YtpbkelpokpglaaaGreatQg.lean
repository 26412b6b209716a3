/- Evaluation by itself: what lies open is put together again. No program occurs here. Evaluation by itself: rows written, elements pointed at. No program occurs here. Evaluation by itself: aggregates, literal slices, elements, interfaces. No program occurs here. -/
import Derived.Test.YtpbkelpokpglaaaGreatQf
set_option linter.all false
namespace Go.Proofs.YtpbkelpokpglaaaGreat
section
open Go Go.RowKit
def castL {T : Nat → Type} (c c' : Nat) (xs : List (T c)) : Option (List (T c')) := if h : c = c' then some (h ▸ xs) else none
def castL2 {T : Nat → Type} (c c' : Nat) (xs : List (List (T c))) : Option (List (List (T c'))) := if h : c = c' then some (h ▸ xs) else none
theorem castL2_ok {T : Nat → Type} {c c' : Nat} {xs : List (List (T c))} {ys : List (List (T c'))} (h : castL2 c c' xs = some ys) : ∃ e : c = c', ys = e ▸ xs := by
  unfold castL2 at h
  split at h
  · rename_i e; cases h; exact ⟨e, rfl⟩
  · cases h
theorem castL_ok {T : Nat → Type} {c c' : Nat} {xs : List (T c)} {ys : List (T c')} (h : castL c c' xs = some ys) : ∃ e : c = c', ys = e ▸ xs := by
  unfold castL at h
  split at h
  · rename_i e; cases h; exact ⟨e, rfl⟩
  · cases h
def castA {α β : Type} (h : α = β) (xs : List α) : List β := (congrArg List h) ▸ xs
theorem castA_map {α β : Type} (h : α = β) (xs : List α) : castA h xs = xs.map (fun x => h ▸ x) := by subst h; simp [castA]
section
variable (K : KT)
/-- The field that a value makes, where a field of a kind is wanted; what it is made of is taken. -/
def asmW (own : KT.H K → (c : Nat) → List (Fd K.T K.M) → Option (K.T c × KT.H K)) (H : KT.H K) (e : Fl K.T K.M) (v : V) : Option (Fl K.T K.M × KT.H K) :=
  match e with
  | .i k _ => match intV v with
    | some (k', x, _) => match sameK k' k with
      | true => some (.i k x, H)
      | false => none
    | none => none
  | .b _ => match boolV v with
    | some x => some (.b x, H)
    | none => none
  | .c _ => none
  | .ro c _ => match v with
    | .sl id => match get H id with
      | some (.ro c' xs) => match castL c' c xs with
        | some ys => some (.ro c ys, H)
        | none => none
      | some (.row c' xs) => match castL c' c xs with
        | some ys => match K.pl c' && Nat.blt 0 (K.sz c') with
          | true => some (.ro c ys, (id, .ro c' xs) :: del H id)
          | false => none
        | none => none
      | _ => none
    | .c (.slice none 0 0) => some (.ro c [], H)
    | _ => none
  | .rr c _ => match v with
    | .sl id => match get H id with
      | some (.rr c' xs) => match castL2 c' c xs with
        | some ys => some (.rr c ys, H)
        | none => none
      | some (.row c' xs) => match K.ls c c' with
        | some h => some (.rr c (castA h.down xs), (id, .rr c (castA h.down xs)) :: del H id)
        | none => none
      | _ => none
    | .c (.slice none 0 0) => some (.rr c [], H)
    | _ => none
  | .row c _ => match v with
    | .sl id => match get H id with
      | some (.row c' xs) => match castL c' c xs with
        | some ys => some (.row c ys, del H id)
        | none => none
      | some (.hole c' xs i o u) => match castL c' c xs with
        | some ys => match (K.vw c (atL (K.df c) ys i))[o]? with
          | some (.own c2 _) => match u with
            | .ptr id2 p => match p with
              | 0 => match get (del H id) id2 with
                | some (.cells fs) => match own (del (del H id) id2) c2 fs with
                  | some (y, H') => match K.bk c ((K.vw c (atL (K.df c) ys i)).set o (.own c2 y)) with
                    | some x' => some (.row c (ys.set i.toNat x'), H')
                    | none => none
                  | none => none
                | _ => none
              | _ => none
            | _ => none
          | some (.mach _) => match u with
            | .mc id2 => match get (del H id) id2 with
              | some (.mach m) => match K.bk c ((K.vw c (atL (K.df c) ys i)).set o (.mach m)) with
                | some x' => some (.row c (ys.set i.toNat x'), del (del H id) id2)
                | none => none
              | _ => none
            | _ => none
          | _ => none
        | none => none
      | _ => none
    | .c (.slice none 0 0) => some (.row c [], H)
    | _ => none
  | .own c _ => match v with
    | .ptr id o => match o with
      | 0 => match get H id with
        | some (.cells fs) => match own (del H id) c fs with
          | some (x, H') => some (.own c x, H')
          | none => none
        | _ => none
      | _ => none
    | _ => none
  | .mach _ => match v with
    | .mc id => match get H id with
      | some (.mach m) => some (.mach m, del H id)
      | _ => none
    | .c .nilIface => some (.mach K.nilM, H)
    | .ifc t v => match v with
      | .ptr id o => match o with
        | 0 => match K.kd t with
          | some c => match get H id with
            | some (.cells fs) => match own (del H id) c fs with
              | some (x, H') => match K.mkM c x with
                | some m => some (.mach m, H')
                | none => none
              | none => none
            | _ => none
          | none => none
        | _ => none
      | _ => none
    | _ => none
/-- Cell by cell. -/
def asmL (a : KT.H K → Fl K.T K.M → V → Option (Fl K.T K.M × KT.H K)) : KT.H K → List (Fl K.T K.M) → List (Fd K.T K.M) → Option (List (Fl K.T K.M) × KT.H K)
  | H, [], [] => some ([], H)
  | H, e :: es, .f x :: fs => match asmL a H es fs with
    | some (l, H') => some (x :: l, H')
    | none => none
  | H, e :: es, .v v :: fs => match a H e v with
    | some (x, H') => match asmL a H' es fs with
      | some (l, H'') => some (x :: l, H'')
      | none => none
    | none => none
  | _, _, _ => none
def asmO : Nat → KT.H K → (c : Nat) → List (Fd K.T K.M) → Option (K.T c × KT.H K)
  | 0, _, _, _ => none
  | f + 1, H, c, fs => match asmL K (asmW K (asmO f)) H (K.vw c (K.df c)) fs with
    | some (l, H') => match K.bk c l with
      | some x => some (x, H')
      | none => none
    | none => none
def depth : Nat := 9
abbrev asm : KT.H K → Fl K.T K.M → V → Option (Fl K.T K.M × KT.H K) := asmW K (asmO K depth)
end
section
variable {K : KT} {ρ : Env}
/-- Plain things look alike wherever they lie. -/
theorem plain_enc : ∀ {l : List (Fl K.T K.M)} {vs : List Value} {L : List SProp} {h : Hp}, plainB l = true → star (fsS (pcS K) l vs ++ L) h → vs = l.map flV ∧ star L h
  | [], [], _, _, _, s => ⟨rfl, s⟩
  | f :: l, v :: vs, L, h, hp, s => by
    obtain ⟨k1, k2, a, e, hA, hL⟩ := s
    have hd := Ent.drop h (show star (pcS K f v :: (fsS (pcS K) l vs ++ L)) h from ⟨k1, k2, a, e, hA, hL⟩)
    rw [pcS_iff] at hA
    cases f <;> simp only [plainB, Bool.false_eq_true] at hp
    · obtain ⟨h1, h2⟩ := plain_enc hp hd
      exact ⟨by rw [List.map_cons, ← h1]; congr 1, h2⟩
    · obtain ⟨h1, h2⟩ := plain_enc hp hd
      exact ⟨by rw [List.map_cons, ← h1]; congr 1, h2⟩
  | [], _ :: _, _, _, _, ⟨_, _, _, _, hf, _⟩ => hf.elim
  | _ :: _, [], _, _, _, ⟨_, _, _, _, hf, _⟩ => hf.elim
theorem plain_rows {c : Nat} (hc : K.pl c = true) : ∀ {xs : List (K.T c)} {vss : List (List Value)} {L : List SProp} {h : Hp}, star (rwsS K (pcS K) c xs vss ++ L) h → vss = xs.map (encF K c) ∧ star L h
  | [], [], _, _, s => ⟨rfl, s⟩
  | x :: xs, vs :: vss, L, h, s => by
    have s' : star (fsS (pcS K) (K.vw c x) vs ++ (rwsS K (pcS K) c xs vss ++ L)) h := by simpa [rwsS] using s
    obtain ⟨h1, h2⟩ := plain_enc (K.pl_ok c hc x) s'
    obtain ⟨h3, h4⟩ := plain_rows hc h2
    exact ⟨by rw [List.map_cons, ← h3, h1]; rfl, h4⟩
  | [], _ :: _, _, _, ⟨_, _, _, _, hf, _⟩ => hf.elim
  | _ :: _, [], _, _, ⟨_, _, _, _, hf, _⟩ => hf.elim
theorem sl_fact {B : Nat} {w : World} {H : KT.H K} {X : List SProp} {id c : Nat} {xs : List (K.T c)} (s : Sat B w (dH K ρ H ++ X)) (h : get H id = some (.row c xs) ∨ get H id = some (.ro c xs)) : denV ρ (.sl id) = .slice (ρ.s id).a xs.length (ρ.s id).c := by
  rcases h with h | h
  · rw [denV, lenH_ok (H := H) (m := xs.length) (by unfold lenH; rw [h]) s]
  · rw [denV, lenH_ok (H := H) (m := xs.length) (by unfold lenH; rw [h]) s]
/-- A row given away, to be read. -/
theorem row_ro {B : Nat} {w : World} {c : Nat} {xs : List (K.T c)} {A : Option Addr} {cap : Nat} {L : List SProp} (hc : K.pl c = true) (hz : 0 < K.sz c) (s : Sat B w (rwS K c xs A cap :: L)) : Sat B w (roS (encF K c) (K.sz c) A cap xs :: L) := by
  obtain ⟨h, Hh, k1, k2, a, e, h1, hL⟩ := s
  rw [rwS_iff] at h1
  obtain ⟨vss, q1, q2, a', e', g1, g2⟩ := h1
  have g3 : star (rwsS K (pcS K) c xs vss ++ []) q2 := by simpa using g2
  obtain ⟨rfl, _⟩ := plain_rows hc g3
  have s2 : Sat B w (rowS A xs.length cap (K.sz c) (xs.flatMap (encF K c)) :: L) := by
    refine ⟨h, Hh, k1, k2, a, e, ?_, hL⟩
    rw [← List.flatMap_def] at g1
    rw [e']
    obtain ⟨r1, r2, r3, r4⟩ := g1
    refine ⟨r1, r2, r3, r4.imp id ?_⟩
    rintro ⟨b, o, spare, hA, hs, hp⟩
    exact ⟨b, o, spare, hA, hs, fun i v hi => by unfold join; rw [hp i v hi]⟩
  exact ro_of_row hz (fun x => by unfold encF; rw [List.length_map, K.sz_ok]) rfl B w s2
theorem rrow_open {c c' : Nat} {hc : PLift (K.T c' = List (K.T c))} (h : K.ls c c' = some hc) : ∀ {xs : List (K.T c')} {vss : List (List Value)} {L : List SProp} {k : Hp}, star (rwsS K (pcS K) c' xs vss ++ L) k →
    ∃ ps : List (Option Addr × Nat), (vss.flatten.length = xs.length ∧ ∀ (i : Nat) ys, (castA hc.down xs)[i]? = some ys → ∃ a, ps[i]? = some a ∧ vss.flatten[i]? = some (.slice a.1 ys.length a.2)) ∧
      star (lookS (fun u => ∀ (i : Nat) ys a, (castA hc.down xs)[i]? = some ys → ps[i]? = some a → Sl (encF K c) (K.sz c) u u.heap.size a.1 ys ∧ ys.length ≤ a.2) :: L) k
  | [], [], L, k, s => ⟨[], ⟨rfl, fun i ys hi => by rw [castA_map] at hi; cases hi⟩, (look_true.trans (Ent.cons (look_mono fun _ _ i ys a hi => by rw [castA_map] at hi; cases hi) Ent.refl)) k s⟩
  | x :: xs, vs :: vss, L, k, s => by
    have s' : star (fsS (pcS K) (K.vw c' x) vs ++ (rwsS K (pcS K) c' xs vss ++ L)) k := by simpa [rwsS] using s
    rw [K.ls_ok _ _ _ h x] at s'
    match vs, s' with
    | [], s' => obtain ⟨_, _, _, _, hf, _⟩ := s'; exact hf.elim
    | _ :: _ :: _, s' => obtain ⟨_, _, _, _, _, _, _, _, _, hf, _⟩ := s'; exact hf.elim
    | [v], s' =>
      obtain ⟨k1, k2, a, e, h1, h2⟩ := (show star (pcS K (.ro c (hc.down ▸ x)) v :: (rwsS K (pcS K) c' xs vss ++ L)) k from s')
      rw [pcS_iff] at h1
      obtain ⟨A, cap, rfl, hro⟩ := h1
      have s1 : star (rwsS K (pcS K) c' xs vss ++ (roS (encF K c) (K.sz c) A cap (hc.down ▸ x) :: L)) k := star_perm (List.perm_middle (l₁ := rwsS K (pcS K) c' xs vss)).symm ⟨k1, k2, a, e, hro, h2⟩
      obtain ⟨ps, ⟨g1, g2⟩, s2⟩ := rrow_open h s1
      refine ⟨(A, cap) :: ps, ⟨by simp [g1], fun i ys hi => ?_⟩, ?_⟩
      · rw [castA_map] at hi g2
        cases i with
        | zero => simp at hi; subst hi; exact ⟨_, rfl, rfl⟩
        | succ i => exact g2 i ys (by simpa using hi)
      · refine star_head (look_mono fun u hu i ys a hi ha => ?_) (look_and k s2)
        rw [castA_map] at hi hu
        cases i with
        | zero => simp at hi ha; subst hi ha; exact hu.2
        | succ i => exact hu.1 i ys a (by simpa using hi) (by simpa using ha)
  | [], _ :: _, _, _, ⟨_, _, _, _, hf, _⟩ => hf.elim
  | _ :: _, [], _, _, ⟨_, _, _, _, hf, _⟩ => hf.elim
/-- A row of slices given away, to be read. -/
theorem row_rr {B : Nat} {w : World} {c c' : Nat} {hc : PLift (K.T c' = List (K.T c))} (h : K.ls c c' = some hc) {xs : List (K.T c')} {A : Option Addr} {cap : Nat} {L : List SProp} (s : Sat B w (rwS K c' xs A cap :: L)) :
    ∃ ps : List (Option Addr × Nat), Sat B w (lookS (fun u => ((castA hc.down xs).length ≤ 9223372036854775807 ∧ (castA hc.down xs).length ≤ cap) ∧
      ∀ (i : Nat) ys, (castA hc.down xs)[i]? = some ys → ∃ a, ps[i]? = some a ∧ (Sl (encF K c) (K.sz c) u u.heap.size a.1 ys ∧ ys.length ≤ a.2) ∧ ∃ b o, A = some ⟨b, o, none⟩ ∧ b < u.heap.size ∧ u.cell? ⟨b, o + i, none⟩ = some (.slice a.1 ys.length a.2)) :: L) := by
  obtain ⟨k, Hk, k1, k2, a, e, h1, hL⟩ := s
  rw [rwS_iff] at h1
  obtain ⟨vss, q1, q2, a', e', g1, g2⟩ := h1
  have hs0 : star ((rowS A xs.length cap (K.sz c') vss.flatten :: rwsS K (pcS K) c' xs vss) ++ L) k := star_append.2 ⟨k1, k2, a, e, ⟨q1, q2, a', e', g1, g2⟩, hL⟩
  have hs1 : star (rwsS K (pcS K) c' xs vss ++ (rowS A xs.length cap (K.sz c') vss.flatten :: L)) k := star_perm (List.perm_middle (l₁ := rwsS K (pcS K) c' xs vss)).symm hs0
  obtain ⟨ps, ⟨f1, f2⟩, s2⟩ := rrow_open h hs1
  have hsz : K.sz c' = 1 ∨ xs = [] := by
    cases xs with
    | nil => exact .inr rfl
    | cons x xs => left; rw [← K.sz_ok c' x, K.ls_ok _ _ _ h x]; rfl
  have s3 : Sat B w (rowS A xs.length cap (K.sz c') vss.flatten :: lookS (fun u => ∀ (i : Nat) ys a, (castA hc.down xs)[i]? = some ys → ps[i]? = some a → Sl (encF K c) (K.sz c) u u.heap.size a.1 ys ∧ ys.length ≤ a.2) :: L) := ⟨k, Hk, star_swap s2⟩
  refine ⟨ps, ?_⟩
  have hlen : (castA hc.down xs).length = xs.length := by rw [castA_map, List.length_map]
  rcases hsz with hsz | rfl
  · rw [hsz] at s3
    have s4 : Sat B w (rowS A xs.length cap 1 (vss.flatten.flatMap fun v => [v]) :: lookS (fun u => ∀ (i : Nat) ys a, (castA hc.down xs)[i]? = some ys → ps[i]? = some a → Sl (encF K c) (K.sz c) u u.heap.size a.1 ys ∧ ys.length ≤ a.2) :: L) := by
      have : (vss.flatten.flatMap fun v => [v]) = vss.flatten := by simp
      rw [this]; exact s3
    have s5 := ro_of_row (enc := fun v : Value => [v]) Nat.one_pos (fun _ => rfl) f1 B w s4
    refine s5.imp fun k hk => star_head (look_mono fun u hu => ?_) (look_and k hk)
    obtain ⟨⟨u1, u2⟩, u3⟩ := hu
    refine ⟨⟨by rw [hlen, ← f1]; exact u1.1, by rw [hlen, ← f1]; exact u2⟩, fun i ys hi => ?_⟩
    obtain ⟨a, ha, hv⟩ := f2 i ys hi
    have hlt := (List.getElem?_eq_some_iff.1 hv).1
    obtain ⟨b, o, hA, hb, hc'⟩ := u1.at_ hlt
    refine ⟨a, ha, u3 i ys a hi ha, b, o, hA, hb, ?_⟩
    have := hc' i hlt 0 (.slice a.1 ys.length a.2) (by rw [(List.getElem?_eq_some_iff.1 hv).2]; rfl)
    simpa using this
  · refine s3.imp fun k hk => star_head (look_mono fun u hu => ⟨⟨by simp [castA_map], by simp [castA_map]⟩, fun i ys hi => by rw [castA_map] at hi; cases hi⟩) (Ent.drop k hk)
def AsmOk (K : KT) (a : KT.H K → Fl K.T K.M → V → Option (Fl K.T K.M × KT.H K)) : Prop :=
  ∀ H e v fl H', a H e v = some (fl, H') → ∀ ρ X B w, Sat B w (dH K ρ H ++ X) → Sat B w (pcS K fl (denV ρ v) :: (dH K ρ H' ++ X))
def OwnOk (K : KT) (own : KT.H K → (c : Nat) → List (Fd K.T K.M) → Option (K.T c × KT.H K)) : Prop :=
  ∀ H c fs x H', own H c fs = some (x, H') → ∀ ρ X vs B w, Sat B w (fsS (fS K ρ) fs vs ++ (dH K ρ H ++ X)) → Sat B w (fsS (pcS K) (K.vw c x) vs ++ (dH K ρ H' ++ X))
theorem sat_pureI {B : Nat} {w : World} {p : SProp} {L : List SProp} (s : Sat B w L) (h : ∀ k, p k) : Sat B w (p :: L) := s.imp fun k hk => ⟨fun _ _ => none, k, fun _ _ => .inl rfl, by funext x y; rfl, h _, hk⟩
theorem sat_head {B : Nat} {w : World} {A A' : SProp} {L : List SProp} (f : ∀ h, A h → A' h) (s : Sat B w (A :: L)) : Sat B w (A' :: L) := s.imp fun _ => star_head f
theorem own_obj {own : KT.H K → (c : Nat) → List (Fd K.T K.M) → Option (K.T c × KT.H K)} (ho : OwnOk K own) {H H' : KT.H K} {id c : Nat} {fs : List (Fd K.T K.M)} {x : K.T c} (hg : get H id = some (.cells fs)) (h : own (del H id) c fs = some (x, H')) {X : List SProp} {B : Nat} {w : World} (s : Sat B w (dH K ρ H ++ X)) :
    Sat B w (obS K c x (ρ.p id) :: (dH K ρ H' ++ X)) := by
  obtain ⟨vs, s2⟩ := sat_open (s.imp (ent_get (ρ := ρ) hg))
  have s3 := ho _ _ _ _ _ h ρ (pts (ρ.p id).1 (ρ.p id).2 vs :: X) vs B w (s2.perm (by
    show ((pts (ρ.p id).1 (ρ.p id).2 vs :: fsS (fS K ρ) fs vs) ++ (dH K ρ (del H id) ++ X)).Perm (fsS (fS K ρ) fs vs ++ (dH K ρ (del H id) ++ (pts (ρ.p id).1 (ρ.p id).2 vs :: X)))
    rw [← List.append_assoc, ← List.append_assoc]
    exact (List.perm_middle (l₁ := fsS (fS K ρ) fs vs ++ dH K ρ (del H id))).symm))
  have s4 : Sat B w ((pts (ρ.p id).1 (ρ.p id).2 vs :: fsS (pcS K) (K.vw c x) vs) ++ (dH K ρ H' ++ X)) := s3.perm (by
    rw [← List.append_assoc, List.cons_append, ← List.append_assoc]
    exact List.perm_middle)
  refine s4.imp fun k hk => ?_
  obtain ⟨k1, k2, a, e, g1, g2⟩ := star_append.1 hk
  exact ⟨k1, k2, a, e, obS_iff.2 ⟨vs, g1⟩, g2⟩
theorem asmW_ok {own : KT.H K → (c : Nat) → List (Fd K.T K.M) → Option (K.T c × KT.H K)} (ho : OwnOk K own) : AsmOk K (asmW K own) := by
  intro H e v fl H' h ρ X B w s
  unfold asmW at h
  split at h
  · split at h
    · rename_i hi
      split at h
      · rename_i hk
        cases h
        obtain rfl := sameK_eq hk
        exact sat_pureI s fun k => pcS_iff.2 (show denV ρ v = _ from intV_den hi)
      · cases h
    · cases h
  · split at h
    · rename_i hb; cases h; exact sat_pureI s fun k => pcS_iff.2 (show denV ρ v = _ from boolV_den hb)
    · cases h
  · cases h
  · rename_i c xs0
    split at h
    · rename_i id
      split at h
      · rename_i c' xs hg
        split at h
        · rename_i ys hy
          cases h
          obtain ⟨rfl, rfl⟩ := castL_ok hy
          have hv := sl_fact s (.inr hg)
          obtain ⟨h0, H0, t0⟩ := s
          have key : Sat B w (roS (encF K c') (K.sz c') (ρ.s id).a (ρ.s id).c ys :: (dH K ρ H ++ X)) := by
            have : ∀ k, star (dH K ρ H ++ X) k → star (roS (encF K c') (K.sz c') (ρ.s id).a (ρ.s id).c ys :: (dH K ρ H ++ X)) k := by
              intro k hk
              obtain ⟨j1, j2, a1, e1, ⟨_, m2⟩, mL⟩ := ent_get (ρ := ρ) hg k hk
              obtain ⟨p, hp, hΦ⟩ := m2
              refine ⟨p, k, fun b o => ?_, ?_, ⟨p, fun b o x hx => ⟨(hp b o x hx).1, hx⟩, hΦ⟩, hk⟩
              · cases hpb : p b o with
                | none => exact .inl rfl
                | some x =>
                  obtain ⟨⟨v, rfl⟩, h2⟩ := hp b o x hpb
                  exact .inr (.inr ⟨v, rfl, by rw [e1]; unfold join; rw [h2]⟩)
              · funext b o
                unfold join
                cases hpb : p b o with
                | none => rfl
                | some x =>
                  obtain ⟨⟨v, rfl⟩, h2⟩ := hp b o x hpb
                  rw [e1]; unfold join; rw [h2]
            exact ⟨h0, H0, this _ t0⟩
          exact sat_head (fun k hk => pcS_iff.2 (show pcW K (obS K) (rwS K) (.ro c' ys) (denV ρ (.sl id)) k from ⟨_, _, hv, hk⟩)) key
        · cases h
      · rename_i c' xs hg
        split at h
        · rename_i ys hy
          split at h
          · rename_i hpl
            cases h
            obtain ⟨rfl, rfl⟩ := castL_ok hy
            have hv := sl_fact s (.inl hg)
            obtain ⟨hh, Hh, k1, k2, a, e, ⟨h1, h2⟩, hL⟩ := s.imp (ent_get (ρ := ρ) hg)
            simp only [Bool.and_eq_true] at hpl
            have s2 : Sat B w (rwS K c' ys (ρ.s id).a (ρ.s id).c :: (dH K ρ (del H id) ++ X)) := ⟨hh, Hh, k1, k2, a, e, h2, hL⟩
            refine ((row_ro hpl.1 (Nat.le_of_ble_eq_true hpl.2) s2).imp ro_dup).imp fun k hk => ?_
            exact star_head (fun k hk => pcS_iff.2 (show pcW K (obS K) (rwS K) (.ro c' ys) (denV ρ (.sl id)) k from ⟨_, _, hv, hk⟩)) (star_tail (fun k hk => star_head (fun k hk => ⟨h1, hk⟩) hk) hk)
          · cases h
        · cases h
      · cases h
    · cases h
      exact s.imp fun k hk => by
        have := ro_nil (enc := encF K c) (sz := K.sz c) (A := none) (c := 0) k hk
        exact star_head (fun k hk => pcS_iff.2 (show pcW K (obS K) (rwS K) (.ro c []) (.slice none 0 0) k from ⟨none, 0, rfl, hk⟩)) this
    · cases h
  · rename_i c xs0
    split at h
    · rename_i id
      split at h
      · rename_i c' xs hg
        split at h
        · rename_i ys hy
          cases h
          obtain ⟨rfl, rfl⟩ := castL2_ok hy
          have hv : denV ρ (.sl id) = .slice (ρ.s id).a ys.length (ρ.s id).c := by
            rw [denV, lenH_ok (H := H) (m := ys.length) (by unfold lenH; rw [hg]) s]
          obtain ⟨h0, H0, t0⟩ := s
          refine ⟨h0, H0, ?_⟩
          obtain ⟨j1, j2, a1, e1, ⟨m1, ps, m2⟩, mL⟩ := ent_get (ρ := ρ) hg h0 t0
          obtain ⟨p, hp, hΦ⟩ := m2
          have hpp : ∀ b o x, p b o = some x → (∃ v, x = .look v) ∧ h0 b o = some x := fun b o x hx => ⟨(hp b o x hx).1, by rw [e1]; unfold join; rw [(hp b o x hx).2]⟩
          refine ⟨p, h0, fun b o => ?_, ?_, pcS_iff.2 (show pcW K (obS K) (rwS K) (.rr c' ys) (denV ρ (.sl id)) p from ⟨_, _, hv, ps, p, fun b o x hx => ⟨(hpp b o x hx).1, hx⟩, hΦ⟩), t0⟩
          · cases hpb : p b o with
            | none => exact .inl rfl
            | some x =>
              obtain ⟨⟨v, rfl⟩, h2⟩ := hpp b o x hpb
              exact .inr (.inr ⟨v, rfl, h2⟩)
          · funext b o
            unfold join
            cases hpb : p b o with
            | none => rfl
            | some x => exact (hpp b o x hpb).2
        · cases h
      · rename_i c' xs hg
        split at h
        · rename_i hc hls
          cases h
          have hv := sl_fact s (.inl hg)
          obtain ⟨hh, Hh, k1, k2, a, e, ⟨h1, h2⟩, hL⟩ := s.imp (ent_get (ρ := ρ) hg)
          have s2 : Sat B w (rwS K c' xs (ρ.s id).a (ρ.s id).c :: (dH K ρ (del H id) ++ X)) := ⟨hh, Hh, k1, k2, a, e, h2, hL⟩
          obtain ⟨ps, s3⟩ := row_rr hls s2
          have hlen : (castA hc.down xs).length = xs.length := by rw [castA_map, List.length_map]
          refine (s3.imp look_dup).imp fun k hk => ?_
          exact star_head (fun k hk => pcS_iff.2 (show pcW K (obS K) (rwS K) (.rr c (castA hc.down xs)) (denV ρ (.sl id)) k from ⟨_, _, by rw [hv, hlen], ps, hk⟩)) (star_tail (fun k hk => star_head (fun k hk => ⟨by rw [h1, hlen], ps, hk⟩) hk) hk)
        · cases h
      · cases h
    · cases h
      exact s.imp fun k hk => by
        refine star_head (fun k hk => pcS_iff.2 (show pcW K (obS K) (rwS K) (.rr c []) (.slice none 0 0) k from ⟨none, 0, rfl, [], ?_⟩)) (look_true k hk)
        exact look_mono (fun u _ => ⟨⟨by simp, by simp⟩, fun i ys hi => by cases hi⟩) k hk
    · cases h
  · rename_i c xs0
    split at h
    · rename_i id
      split at h
      · rename_i c' xs hg
        split at h
        · rename_i ys hy
          cases h
          obtain ⟨rfl, rfl⟩ := castL_ok hy
          have hv := sl_fact s (.inl hg)
          obtain ⟨hh, Hh, k1, k2, a, e, ⟨h1, h2⟩, hL⟩ := s.imp (ent_get (ρ := ρ) hg)
          exact ⟨hh, Hh, k1, k2, a, e, pcS_iff.2 (show pcW K (obS K) (rwS K) (.row c' ys) (denV ρ (.sl id)) k1 from ⟨_, _, hv, h2⟩), hL⟩
        · cases h
      · rename_i c' xs i o u hg
        split at h
        · rename_i ys hy
          obtain ⟨rfl, rfl⟩ := castL_ok hy
          have fin : ∀ {f' : Fl K.T K.M} {x' : K.T c'} {L : List SProp}, K.bk c' ((K.vw c' (atL (K.df c') ys i)).set o f') = some x' → Sat B w (denC K ρ id (.hole c' ys i o u) :: pcS K f' (denV ρ u) :: L) → Sat B w (pcS K (.row c' (ys.set i.toNat x')) (denV ρ (.sl id)) :: L) := by
            intro f' x' L hb s'
            refine sat_head (fun k hk => ?_) (hole_close (K.bk_ok _ _ _ hb) s')
            exact pcS_iff.2 (show pcW K (obS K) (rwS K) (.row c' (ys.set i.toNat x')) (denV ρ (.sl id)) k from ⟨(ρ.s id).a, (ρ.s id).c, by rw [denV, hk.1], hk.2⟩)
          have s1 : Sat B w (dH K ρ (del H id) ++ (denC K ρ id (.hole c' ys i o u) :: X)) := (s.imp (ent_get (ρ := ρ) hg)).perm (List.perm_middle (l₁ := dH K ρ (del H id))).symm
          split at h
          · rename_i c2 y0 _
            split at h
            · rename_i id2 p
              split at h
              · split at h
                · rename_i fs hg2
                  split at h
                  · rename_i y H2 hown
                    split at h
                    · rename_i x' hb
                      cases h
                      have s2 := own_obj ho hg2 hown s1
                      have s3 : Sat B w (pcS K (.own c2 y) (denV ρ (.ptr id2 0)) :: (dH K ρ H' ++ (denC K ρ id (.hole c' ys i o (.ptr id2 0)) :: X))) := sat_head (fun k hk => pcS_iff.2 (show pcW K (obS K) (rwS K) (.own c2 y) (denV ρ (.ptr id2 0)) k from ⟨ρ.p id2, rfl, hk⟩)) s2
                      refine fin hb (s3.perm ?_)
                      exact (List.Perm.cons _ (List.perm_middle (l₁ := dH K ρ H'))).trans (List.Perm.swap ..)
                    · cases h
                  · cases h
                · cases h
              · cases h
            · cases h
          · split at h
            · rename_i id2
              split at h
              · rename_i m hg2
                split at h
                · rename_i x' hb
                  cases h
                  have s2 := s1.imp (ent_get (ρ := ρ) hg2)
                  refine fin (f' := .mach m) hb (s2.perm ?_)
                  exact (List.Perm.cons _ (List.perm_middle (l₁ := dH K ρ (del (del H id) id2)))).trans (List.Perm.swap ..)
                · cases h
              · cases h
            · cases h
          · cases h
        · cases h
      · cases h
    · cases h
      have hr : ∀ k, rwS K c [] none 0 k := fun k => rwS_iff.2 ⟨[], fun _ _ => none, k, fun _ _ => .inl rfl, by funext x y; rfl, rowS_nil _ _, trivial⟩
      exact sat_pureI s fun k => pcS_iff.2 (show pcW K (obS K) (rwS K) (.row c []) (.slice none 0 0) k from ⟨none, 0, rfl, hr k⟩)
    · cases h
  · rename_i c x0
    split at h
    · rename_i id o
      split at h
      · split at h
        · rename_i fs hg
          split at h
          · rename_i x H2 hx
            cases h
            have s2 := own_obj ho hg hx s
            exact sat_head (fun k hk => pcS_iff.2 (show pcW K (obS K) (rwS K) (.own c x) (denV ρ (.ptr id 0)) k from ⟨ρ.p id, rfl, hk⟩)) s2
          · cases h
        · cases h
      · cases h
    · cases h
  · split at h
    · rename_i id
      split at h
      · rename_i m hg
        cases h
        exact s.imp (ent_get (ρ := ρ) hg)
      · cases h
    · cases h
      exact sat_pureI s fun k => pcS_iff.2 (by simp only [pcW, K.nilM_ok]; rfl)
    · rename_i t v
      split at h
      · rename_i id o
        split at h
        · split at h
          · rename_i c hkd
            split at h
            · rename_i fs hg
              split at h
              · rename_i x H2 hx
                split at h
                · rename_i m hm
                  cases h
                  have s2 := own_obj ho hg hx s
                  refine sat_head (fun k hk => pcS_iff.2 ?_) s2
                  simp only [pcW, K.mkM_ok _ _ _ hm]
                  exact ⟨ρ.p id, by rw [K.kd_ok _ _ hkd]; rfl, hk⟩
                · cases h
              · cases h
            · cases h
          · cases h
        · cases h
      · cases h
    · cases h
theorem star_post {A : List SProp} : ∀ {L : List SProp} {h : Hp}, star (L ++ A) h → star A h
  | [], _, s => s
  | _ :: _, h, s => star_post (Ent.drop h s)
theorem perm3 {α : Type _} (A B X : List α) (p : α) : (A ++ (B ++ (p :: X))).Perm (p :: (A ++ (B ++ X))) := by
  rw [← List.append_assoc, ← List.append_assoc]; exact List.perm_middle
theorem permS {α : Type _} (A B X : List α) : (A ++ (B ++ X)).Perm (B ++ (A ++ X)) := by
  rw [← List.append_assoc, ← List.append_assoc]; exact List.perm_append_comm.append_right _
theorem sat_false {B : Nat} {w : World} {L : List SProp} {p : Prop} (s : Sat B w ((fun _ => False) :: L)) : p := by
  obtain ⟨_, _, _, _, _, _, hf, _⟩ := s; exact hf.elim
theorem asmL_ok {a : KT.H K → Fl K.T K.M → V → Option (Fl K.T K.M × KT.H K)} (ha : AsmOk K a) : ∀ {H : KT.H K} {es : List (Fl K.T K.M)} {fs : List (Fd K.T K.M)} {l : List (Fl K.T K.M)} {H' : KT.H K}, asmL K a H es fs = some (l, H') →
    ∀ {ρ : Env} {X : List SProp} {vs : List Value} {B : Nat} {w : World}, Sat B w (fsS (fS K ρ) fs vs ++ (dH K ρ H ++ X)) → Sat B w (fsS (pcS K) l vs ++ (dH K ρ H' ++ X))
  | H, [], [], l, H', h, ρ, X, vs, B, w, s => by
    cases h
    cases vs with
    | nil => exact s
    | cons v vs => exact sat_false s
  | H, e :: es, .f x :: fs, l, H', h, ρ, X, vs, B, w, s => by
    unfold asmL at h
    split at h
    · rename_i l' H2 h2
      cases h
      cases vs with
      | nil => exact sat_false s
      | cons v vs =>
        have s1 : Sat B w (fsS (fS K ρ) fs vs ++ (dH K ρ H ++ (pcS K x v :: X))) := s.perm (perm3 (fsS (fS K ρ) fs vs) (dH K ρ H) X (pcS K x v)).symm
        have s2 := asmL_ok ha h2 s1
        exact s2.perm (perm3 (fsS (pcS K) l' vs) (dH K ρ H') X (pcS K x v))
    · cases h
  | H, e :: es, .v u :: fs, l, H', h, ρ, X, vs, B, w, s => by
    unfold asmL at h
    split at h
    · rename_i x H1 h1
      split at h
      · rename_i l' H2 h2
        cases h
        cases vs with
        | nil => exact sat_false s
        | cons v vs =>
          have hv : v = denV ρ u := Sat.pure (show Sat B w (pureS (v = denV ρ u) :: (fsS (fS K ρ) fs vs ++ (dH K ρ H ++ X))) from s)
          have s0 : Sat B w (fsS (fS K ρ) fs vs ++ (dH K ρ H ++ X)) := s.imp Ent.drop
          have s1 := ha _ _ _ _ _ h1 ρ (fsS (fS K ρ) fs vs ++ X) B w (s0.perm (permS (fsS (fS K ρ) fs vs) (dH K ρ H) X))
          have s2 : Sat B w (fsS (fS K ρ) fs vs ++ (dH K ρ H1 ++ (pcS K x v :: X))) := s1.perm (by
            rw [← hv]
            exact (List.Perm.cons _ (permS (dH K ρ H1) (fsS (fS K ρ) fs vs) X)).trans (perm3 (fsS (fS K ρ) fs vs) (dH K ρ H1) X (pcS K x v)).symm)
          have s3 := asmL_ok ha h2 s2
          exact s3.perm (perm3 (fsS (pcS K) l' vs) (dH K ρ H') X (pcS K x v))
      · cases h
    · cases h
  | _, [], _ :: _, _, _, h, _, _, _, _, _, _ => by cases h
  | _, _ :: _, [], _, _, h, _, _, _, _, _, _ => by cases h
theorem asmO_ok : ∀ f, OwnOk K (asmO K f)
  | 0 => fun _ _ _ _ _ h => by cases h
  | f + 1 => fun H c fs x H' h ρ X vs B w s => by
    unfold asmO at h
    split at h
    · rename_i l H2 hl
      split at h
      · rename_i y hy
        cases h
        have := asmL_ok (asmW_ok (asmO_ok f)) hl s
        rw [K.bk_ok _ _ _ hy]
        exact this
      · cases h
    · cases h
theorem asm_ok : AsmOk K (asm K) := asmW_ok (asmO_ok _)
end
end
section
open Go Go.RowKit
theorem flatten_len {sz : Nat} : ∀ {vss : List (List Value)}, (∀ vs ∈ vss, vs.length = sz) → vss.flatten.length = vss.length * sz
  | [], _ => by simp
  | vs :: vss, h => by
    rw [List.flatten_cons, List.length_append, flatten_len (fun v hv => h v (List.mem_cons_of_mem _ hv)), h vs (List.mem_cons_self ..), List.length_cons, Nat.add_mul]; omega
theorem flatten_set {sz : Nat} : ∀ {vss : List (List Value)} {i o : Nat} {vs us : List Value}, (∀ vs ∈ vss, vs.length = sz) → vss[i]? = some vs → o + us.length ≤ sz →
    (vss.set i (vs.take o ++ us ++ vs.drop (o + us.length))).flatten = vss.flatten.take (i * sz + o) ++ us ++ vss.flatten.drop (i * sz + o + us.length)
  | [], i, o, vs, us, _, h, _ => by cases h
  | ws :: vss, 0, o, vs, us, hl, h, ho => by
    simp at h; subst h
    have h0 := hl ws (List.mem_cons_self ..)
    simp only [List.set_cons_zero, List.flatten_cons, Nat.zero_mul, Nat.zero_add]
    rw [List.take_append_of_le_length (by omega), List.drop_append_of_le_length (by omega)]
    simp only [List.append_assoc]
  | ws :: vss, i + 1, o, vs, us, hl, h, ho => by
    have h0 := hl ws (List.mem_cons_self ..)
    have ih := flatten_set (vss := vss) (i := i) (o := o) (vs := vs) (us := us) (fun v hv => hl v (List.mem_cons_of_mem _ hv)) (by simpa using h) ho
    simp only [List.set_cons_succ, List.flatten_cons]
    rw [ih, show (i + 1) * sz + o = ws.length + (i * sz + o) by rw [h0, Nat.add_mul]; omega]
    rw [List.take_length_add_append, Nat.add_assoc ws.length, List.drop_length_add_append]
    simp only [List.append_assoc]
theorem fsS_app {F : Type} {pc : F → Value → SProp} : ∀ {a b : List F} {x y : List Value}, a.length = x.length → fsS pc (a ++ b) (x ++ y) = fsS pc a x ++ fsS pc b y
  | [], _, [], _, _ => rfl
  | f :: a, b, v :: x, y, h => by simp only [List.cons_append, fsS, fsS_app (a := a) (x := x) (by simpa using h)]
  | [], _, _ :: _, _, h => by cases h
  | _ :: _, _, [], _, h => by cases h
section
variable {P : Program} {B : Nat} {W : World}
theorem rowst_run {T : TypeId} {v : Value} {b o m c sz i k : Nat} {vs us : List Value} {w : World} {L : List SProp} (s : Sat B w (rowS (some ⟨b, o, none⟩) m c sz vs :: L)) (hb : Below B W w) (hl : B ≤ w.heap.size) (hT : P.cellsOf T = k) (hk : us.length = k) (hk0 : 0 < k) (hv : v.cells.toList = us) (ha : us.all scalar = true) (hi : i + k ≤ vs.length) :
    ∃ w', (storeVar T ⟨b, o + i, none⟩ v).run P w = .ok () w' ∧ Cls B W (rowS (some ⟨b, o, none⟩) m c sz (vs.take i ++ us ++ vs.drop (i + k)) :: L) w' := by
  obtain ⟨h, Hh, k1, k2, ap, e, ⟨h1, h2, h3, h4⟩, hM⟩ := s
  rcases h4 with ⟨h4, _⟩ | ⟨b', o', spare, hA, hsp, hp⟩
  · cases h4
  · cases hA
    have s' : Sat B w (pts b o (vs ++ spare) :: L) := ⟨h, Hh, k1, k2, ap, e, hp, hM⟩
    obtain ⟨w', hr, c1, c2, c3⟩ := storeVar_run (P := P) (T := T) (v := v) (W := W) (o' := o + i) (i := i) (k := k) (us := us) s' hb hl rfl hT hk hk0 hv ha (by rw [List.length_append]; omega)
    refine ⟨w', hr, c1, c2, c3.imp fun h => star_head fun h hq => ?_⟩
    have e1 : List.take i (vs ++ spare) ++ us ++ List.drop (i + k) (vs ++ spare) = (vs.take i ++ us ++ vs.drop (i + k)) ++ spare := by
      rw [List.take_append_of_le_length (by omega), List.drop_append_of_le_length (by omega)]
      simp only [List.append_assoc]
    rw [e1] at hq
    refine ⟨?_, h2, h3, .inr ⟨b, o, spare, rfl, hsp, hq⟩⟩
    rw [← h1]; simp only [List.length_append, List.length_take, List.length_drop]; omega
end
section
variable (K : KT)
/-- A store into an element of a row. -/
def evStR (P : Program) (H : KT.H K) (T : TypeId) (x u : V) : Option (KT.H K) :=
  match x with
  | .ptr id o => match get H id with
    | some (.elt j i sz) => match get H j with
      | some (.row c xs) => match Nat.beq sz (K.sz c) && Nat.beq (P.cellsOf T) (cellsV u).length && Nat.blt 0 (cellsV u).length && Nat.ble (o + (cellsV u).length) sz && (cellsV u).all (scV (del H j)) with
        | true => match asmL K (asm K) (del H j) (((K.vw c (atL (K.df c) xs i)).drop o).take (cellsV u).length) ((cellsV u).map .v) with
          | some (l, H1) => match K.bk c ((K.vw c (atL (K.df c) xs i)).take o ++ l ++ (K.vw c (atL (K.df c) xs i)).drop (o + (cellsV u).length)) with
            | some x' => some ((j, .row c (xs.set i.toNat x')) :: H1)
            | none => none
          | none => none
        | false => none
      | _ => none
    | _ => none
  | _ => none
end
section
variable {K : KT} {P : Program} {nt n B : Nat} {W : World} {R : RegL} {Z H : KT.H K} {nx : Nat → KT.H K → V → Prop}
theorem asmL_len {a : KT.H K → Fl K.T K.M → V → Option (Fl K.T K.M × KT.H K)} : ∀ {H : KT.H K} {es : List (Fl K.T K.M)} {fs : List (Fd K.T K.M)} {l : List (Fl K.T K.M)} {H' : KT.H K}, asmL K a H es fs = some (l, H') → l.length = fs.length ∧ es.length = fs.length
  | H, [], [], l, H', h => by cases h; exact ⟨rfl, rfl⟩
  | H, e :: es, .f x :: fs, l, H', h => by
    unfold asmL at h
    split at h
    · rename_i h2; cases h; have := asmL_len h2; simp [this]
    · cases h
  | H, e :: es, .v u :: fs, l, H', h => by
    unfold asmL at h
    split at h
    · split at h
      · rename_i h2; cases h; have := asmL_len h2; simp [this]
      · cases h
    · cases h
  | _, [], _ :: _, _, _, h => by cases h
  | _, _ :: _, [], _, _, h => by cases h
theorem step_storeR {o : Oper} {T : TypeId} {x y : Operand} {u v : V} {H' : KT.H K} (ho : o.op = .store T x y) (hx : evO R x = some u) (hy : evO R y = some v) (h : evStR K P H T u v = some H') (hn : nx n H' (.c undef)) : StepOk K P nt B W o R n Z H nx := fun F ρ a w s => by
  obtain ⟨d, op, ty, ps, af, g⟩ := o
  simp only at ho
  subst ho
  have ex := (evO_ok (ρ := ρ) hx).eval s.regs
  have ey := (evO_ok (ρ := ρ) hy).eval s.regs
  unfold evStR at h
  split at h
  · rename_i id o'
    split at h
    · rename_i j i sz hel
      split at h
      · rename_i c xs hg
        split at h
        · rename_i hB
          split at h
          · rename_i l H1 hl
            split at h
            · rename_i x' hbk
              cases h
              simp only [Bool.and_eq_true] at hB
              obtain ⟨⟨⟨⟨b0, b1⟩, b2⟩, b3⟩, b4⟩ := hB
              obtain rfl := Nat.eq_of_beq_eq_true b0
              have b1' := Nat.eq_of_beq_eq_true b1
              have b2' : 0 < (cellsV v).length := Nat.le_of_ble_eq_true b2
              have b3' := Nat.le_of_ble_eq_true b3
              obtain ⟨hi, b, o2, hA, hp⟩ := elt_ok s.sat hel
              obtain ⟨hlen, vss, h2, h3, s2⟩ := row_at s.sat hg
              rw [hlen] at hi
              have hxi := atL_get (d := K.df c) hi
              have hlt : i.toNat < vss.length := by omega
              have hvs : vss[i.toNat]? = some vss[i.toNat] := List.getElem?_eq_getElem hlt
              have hvl := h3 _ (List.getElem_mem hlt)
              rw [hA] at s2
              -- what is stored
              have s3 : Sat B w (dH K ρ (del H j) ++ (rowS (some ⟨b, o2, none⟩) xs.length (ρ.s j).c (K.sz c) vss.flatten :: (rwsS K (pcS K) c xs vss ++ tl K Z F ρ))) := s2.perm (by
                refine List.Perm.symm ?_
                refine (List.perm_middle (l₁ := dH K ρ (del H j))).trans (List.Perm.cons _ ?_)
                exact permS _ _ _)
              obtain ⟨hcl, hsc⟩ := cells_den b4 s3
              have hvlen : (denVs ρ (cellsV v)).length = (cellsV v).length := by rw [denVs_map]; simp
              have s4 := asmL_ok asm_ok hl (ρ := ρ) (X := rowS (some ⟨b, o2, none⟩) xs.length (ρ.s j).c (K.sz c) vss.flatten :: (rwsS K (pcS K) c xs vss ++ tl K Z F ρ)) (vs := denVs ρ (cellsV v)) (s3.imp fun k hk => fsS_vals hk)
              have s5 : Sat B w (rowS (some ⟨b, o2, none⟩) xs.length (ρ.s j).c (K.sz c) vss.flatten :: (fsS (pcS K) l (denVs ρ (cellsV v)) ++ (dH K ρ H1 ++ (rwsS K (pcS K) c xs vss ++ tl K Z F ρ)))) := s4.perm (perm3 _ _ _ _)
              obtain ⟨w', hr, c1, c2, c3⟩ := rowst_run (P := P) (T := T) (v := denV ρ v) (W := W) (i := i.toNat * K.sz c + o') (k := (cellsV v).length) (us := denVs ρ (cellsV v)) s5 s.below s.lo b1' hvlen b2' hcl hsc (by
                rw [flatten_len h3]
                have : (i.toNat + 1) * K.sz c ≤ vss.length * K.sz c := Nat.mul_le_mul_right _ hlt
                rw [Nat.add_mul] at this
                omega)
              have : (execOp a.eval ⟨d, .store T x y, ty, ps, af, g⟩).run P w = .ok .skip w' := by
                simp only [execOp, ex, ey, denV, Instr.storeAt, Instr.sureAddr, hp]
                rw [run_bind_ok (a := ()) (w' := w') (by
                  rw [run_bind_ok (a := (⟨b, o2 + i.toNat * K.sz c + o', none⟩ : Addr)) (w' := w) rfl]
                  rw [Nat.add_assoc]; exact hr)]
                rfl
              rw [this]
              refine ⟨⟨ρ, n, _, .c undef⟩, rfl, ⟨Agree.refl _ _, Nat.le_refl _, rfl, hn⟩, c1, c2, ?_⟩
              rw [← hvlen] at c3
              rw [← flatten_set h3 hvs (by omega)] at c3
              -- put together again
              obtain ⟨M, p1, p2⟩ := rwsS_turn (pc := pcS K) hxi hvs
              refine c3.imp fun k hk => ?_
              obtain ⟨k1, k2, a', e', g1, g2⟩ := hk
              have g3 : star ((fsS (pcS K) l (denVs ρ (cellsV v)) ++ (fsS (pcS K) (K.vw c (atL (K.df c) xs i)) vss[i.toNat] ++ M)) ++ (dH K ρ H1 ++ tl K Z F ρ)) k2 := by
                refine star_perm ?_ g2
                rw [List.append_assoc]
                refine List.Perm.append_left _ ?_
                refine (permS _ _ _).trans ?_
                exact p1.append_right _
              have hes : (K.vw c (atL (K.df c) xs i)).length = (vss[i.toNat]).length := by rw [K.sz_ok, hvl]
              have hol : o' + (cellsV v).length ≤ (K.vw c (atL (K.df c) xs i)).length := by rw [K.sz_ok]; exact b3'
              have hll := (asmL_len hl).1
              rw [List.length_map] at hll
              -- the old cells' places in three
              have e1 : fsS (pcS K) (K.vw c (atL (K.df c) xs i)) vss[i.toNat] = fsS (pcS K) ((K.vw c (atL (K.df c) xs i)).take o') ((vss[i.toNat]).take o') ++ (fsS (pcS K) (((K.vw c (atL (K.df c) xs i)).drop o').take (cellsV v).length) (((vss[i.toNat]).drop o').take (cellsV v).length) ++ fsS (pcS K) ((K.vw c (atL (K.df c) xs i)).drop (o' + (cellsV v).length)) ((vss[i.toNat]).drop (o' + (cellsV v).length))) := by
                conv => lhs; rw [← List.take_append_drop o' (K.vw c (atL (K.df c) xs i)), ← List.take_append_drop o' (vss[i.toNat]), fsS_app (by simp [hes])]
                conv => lhs; arg 2; rw [← List.take_append_drop (cellsV v).length ((K.vw c (atL (K.df c) xs i)).drop o'), ← List.take_append_drop (cellsV v).length ((vss[i.toNat]).drop o'), fsS_app (by simp [hes]), List.drop_drop, List.drop_drop]
              rw [e1] at g3
              have g4 : star ((fsS (pcS K) ((K.vw c (atL (K.df c) xs i)).take o') ((vss[i.toNat]).take o') ++ (fsS (pcS K) l (denVs ρ (cellsV v)) ++ (fsS (pcS K) ((K.vw c (atL (K.df c) xs i)).drop (o' + (cellsV v).length)) ((vss[i.toNat]).drop (o' + (cellsV v).length)) ++ M))) ++ (dH K ρ H1 ++ tl K Z F ρ)) k2 := by
                have g5 : star (fsS (pcS K) (((K.vw c (atL (K.df c) xs i)).drop o').take (cellsV v).length) (((vss[i.toNat]).drop o').take (cellsV v).length) ++ ((fsS (pcS K) ((K.vw c (atL (K.df c) xs i)).take o') ((vss[i.toNat]).take o') ++ (fsS (pcS K) l (denVs ρ (cellsV v)) ++ (fsS (pcS K) ((K.vw c (atL (K.df c) xs i)).drop (o' + (cellsV v).length)) ((vss[i.toNat]).drop (o' + (cellsV v).length)) ++ M))) ++ (dH K ρ H1 ++ tl K Z F ρ))) k2 := by
                  refine star_perm ?_ g3
                  simp only [List.append_assoc]
                  refine (permS _ _ _).trans ?_
                  refine (List.Perm.append_left _ (permS _ _ _)).trans ?_
                  exact permS _ _ _
                exact star_post g5
              have e2 : fsS (pcS K) (K.vw c x') ((vss[i.toNat]).take o' ++ denVs ρ (cellsV v) ++ (vss[i.toNat]).drop (o' + (denVs ρ (cellsV v)).length)) = fsS (pcS K) ((K.vw c (atL (K.df c) xs i)).take o') ((vss[i.toNat]).take o') ++ (fsS (pcS K) l (denVs ρ (cellsV v)) ++ fsS (pcS K) ((K.vw c (atL (K.df c) xs i)).drop (o' + (cellsV v).length)) ((vss[i.toNat]).drop (o' + (cellsV v).length))) := by
                rw [K.bk_ok _ _ _ hbk, List.append_assoc, List.append_assoc, fsS_app (by simp [hes]), fsS_app (by rw [hvlen, hll]), hvlen]
              have g6 : star (rwsS K (pcS K) c (xs.set i.toNat x') (vss.set i.toNat ((vss[i.toNat]).take o' ++ denVs ρ (cellsV v) ++ (vss[i.toNat]).drop (o' + (denVs ρ (cellsV v)).length))) ++ (dH K ρ H1 ++ tl K Z F ρ)) k2 := by
                refine star_perm (((p2 x' _).append_right _).symm) ?_
                rw [e2]
                simpa only [List.append_assoc] using g4
              have g7 : star ((rowS (some ⟨b, o2, none⟩) (xs.set i.toNat x').length (ρ.s j).c (K.sz c) (vss.set i.toNat ((vss[i.toNat]).take o' ++ denVs ρ (cellsV v) ++ (vss[i.toNat]).drop (o' + (denVs ρ (cellsV v)).length))).flatten :: rwsS K (pcS K) c (xs.set i.toNat x') (vss.set i.toNat ((vss[i.toNat]).take o' ++ denVs ρ (cellsV v) ++ (vss[i.toNat]).drop (o' + (denVs ρ (cellsV v)).length)))) ++ (dH K ρ H1 ++ tl K Z F ρ)) k := ⟨k1, k2, a', e', by rw [List.length_set]; exact g1, g6⟩
              obtain ⟨j1, j2, a'', e'', q1, q2⟩ := star_append.1 g7
              exact ⟨j1, j2, a'', e'', ⟨by rw [List.length_set]; exact hlen, rwS_iff.2 ⟨_, by rw [hA]; exact q1⟩⟩, q2⟩
            · cases h
          · cases h
        · cases h
      · cases h
    · cases h
  · cases h
end
end
section
open Go Go.RowKit
theorem setRange_list : ∀ (us : List Value) (j off : Nat) (cs : Array Value), off + j + us.length ≤ cs.size →
    ((us.zipIdx j).foldl (fun cs (p : Value × Nat) => cs.setIfInBounds (off + p.2) p.1) cs).toList = cs.toList.take (off + j) ++ us ++ cs.toList.drop (off + j + us.length)
  | [], j, off, cs, _ => by simp
  | u :: us, j, off, cs, h => by
    simp only [List.length_cons] at h
    simp only [List.zipIdx_cons, List.foldl_cons, List.length_cons]
    rw [setRange_list us (j + 1) off _ (by simp; omega)]
    simp only [Array.toList_setIfInBounds]
    have hl : off + j < cs.toList.length := by simpa using (by omega : off + j < cs.size)
    rw [show off + (j + 1) = (off + j) + 1 by omega]
    have e1 : (cs.toList.set (off + j) u).take (off + j + 1) = cs.toList.take (off + j) ++ [u] := by
      rw [List.take_succ_eq_append_getElem (by simpa using hl), List.take_set_of_le (Nat.le_refl _)]
      simp
    have e2 : (cs.toList.set (off + j) u).drop (off + j + 1 + us.length) = cs.toList.drop (off + j + (us.length + 1)) := by
      rw [List.drop_set_of_lt (by omega)]; congr 1; omega
    rw [e1, e2]; simp
/-- Parts are put into their places. -/
def fillV {K : KT} (H : KT.H K) (pl : Nat → Option (Nat × Nat)) (cells : List V) : List (Nat × V) → Option (List V)
  | [] => some cells
  | (i, v) :: rest => match pl i with
    | some (off, size) => match Nat.beq (cellsV v).length size && Nat.ble (off + size) cells.length && (cellsV v).all (scV H) with
      | true => fillV H pl (cells.take off ++ cellsV v ++ cells.drop (off + size)) rest
      | false => none
    | none => none
def evPs (R : RegL) : List (Nat × Operand) → Option (List (Nat × V))
  | [] => some []
  | (i, x) :: l => match evO R x with
    | some v => match evPs R l with
      | some vs => some ((i, v) :: vs)
      | none => none
    | none => none
section
variable {K : KT} {ρ : Env} {B : Nat} {w : World}
theorem evPs_ok {R : RegL} : ∀ {l : List (Nat × Operand)} {vs : List (Nat × V)}, evPs R l = some vs → EvalPs (dR ρ R) l (vs.map fun p => (p.1, denV ρ p.2))
  | [], vs, h => by cases h; exact .nil
  | (i, x) :: l, vs, h => by
    unfold evPs at h
    split at h
    · rename_i hx
      split at h
      · rename_i hl; cases h; exact .cons (evO_ok hx) (evPs_ok hl)
      · cases h
    · cases h
theorem fillV_ok {H : KT.H K} {X : List SProp} (s : Sat B w (dH K ρ H ++ X)) {pl : Nat → Option (Nat × Nat)} : ∀ {ps : List (Nat × V)} {cells out : List V}, fillV H pl cells ps = some out →
    Instr.fill pl (denVs ρ cells).toArray (ps.map fun p => (p.1, denV ρ p.2)) = some (denVs ρ out).toArray ∧ out.length = cells.length
  | [], cells, out, h => by cases h; exact ⟨rfl, rfl⟩
  | (i, v) :: ps, cells, out, h => by
    unfold fillV at h
    split at h
    · rename_i off size hp
      split at h
      · rename_i hB
        simp only [Bool.and_eq_true] at hB
        obtain ⟨⟨b1, b2⟩, b3⟩ := hB
        have b1' := Nat.eq_of_beq_eq_true b1
        have b2' := Nat.le_of_ble_eq_true b2
        obtain ⟨hc, _⟩ := cells_den b3 s
        obtain ⟨ih, hl⟩ := fillV_ok s h
        have hlen : (denVs ρ cells).length = cells.length := by rw [denVs_map]; simp
        have hcl : (denV ρ v).cells.size = size := by
          have := congrArg List.length hc
          rw [denVs_map] at this; simpa [b1'] using this
        refine ⟨?_, by rw [hl]; simp; omega⟩
        rw [List.map_cons, Instr.fill]
        simp only [hp, hcl]
        rw [if_neg (by simp [hlen]; omega)]
        rw [← ih]
        congr 1
        apply Array.ext'
        rw [← Array.foldl_toList, Array.toList_zipIdx, hc]
        have := setRange_list (denVs ρ (cellsV v)) 0 off (denVs ρ cells).toArray (by rw [denVs_map (cellsV v)]; simp [hlen, b1']; omega)
        rw [Nat.add_zero] at this
        rw [this]
        simp [denVs_map, b1']
      · cases h
    · cases h
end
/-- The places of a struct's fields. -/
def plS (P : Program) : List Field → Option (List (Nat × Nat))
  | [] => some []
  | f :: l => match P.info? f.type with
    | some i => match plS P l with
      | some r => some ((f.offset, i.size) :: r)
      | none => none
    | none => none
theorem plS_run {P : Program} {w : World} : ∀ {l : List Field} {r : List (Nat × Nat)}, plS P l = some r → (l.mapM (m := Sem) fun f => do pure (f.offset, ← sizeOf f.type)).run P w = .ok r w
  | [], r, h => by cases h; rfl
  | f :: l, r, h => by
    unfold plS at h
    split at h
    · rename_i i hi
      split at h
      · rename_i r' hr
        cases h
        rw [List.mapM_cons]
        have h1 : (sizeOf f.type).run P w = .ok i.size w := by unfold sizeOf; rw [run_bind_ok (info_run hi)]; rfl
        rw [run_bind_ok (a := (f.offset, i.size)) (w' := w) (by rw [run_bind_ok h1]; rfl), run_bind_ok (plS_run hr)]
        rfl
      · cases h
    · cases h
section
variable (K : KT)
/-- An aggregate. -/
def evBd (P : Program) (R : RegL) (H : KT.H K) (T : TypeId) (parts : List (Nat × Operand)) : Option V :=
  match P.underlying T with
  | some (.struct fs) => match zeroV P T with
    | some z => match plS P fs.toList with
      | some pl => match evPs R parts with
        | some ps => (fillV H (fun i => pl[i]?) z ps).map .agg
        | none => none
      | none => none
    | none => none
  | some (.array _ E) => match zeroV P T with
    | some z => match P.info? E with
      | some inf => match evPs R parts with
        | some ps => (fillV H (fun i => some (i * inf.size, inf.size)) z ps).map .agg
        | none => none
      | none => none
    | none => none
  | _ => none
/-- The cells of a literal slice. -/
def evBs (P : Program) (R : RegL) (H : KT.H K) (T : TypeId) (m : Nat) (parts : List (Nat × Operand)) : Option (Nat × List V) :=
  match P.underlying T with
  | some (.slice E) => match P.info? E with
    | some inf => match inf.zero with
      | some z => match evPs R parts with
        | some ps => match Nat.ble (m * inf.size) 16777216 && Nat.blt 0 (m * inf.size) with
          | true => (fillV H (fun i => some (i * inf.size, inf.size)) (((Array.range (m * inf.size)).map (z.cells[· % z.cells.size]!)).toList.map conV) ps).map fun l => (inf.size, l)
          | false => none
        | none => none
      | none => none
    | none => none
  | _ => none
end
section
variable {K : KT} {P : Program} {ρ : Env} {B : Nat} {w : World}
theorem conVs_den (l : List Value) : denVs ρ (l.map conV) = l := by
  rw [denVs_map, List.map_map]
  have : (denV ρ ∘ conV) = id := by funext x; exact conV_den ρ x
  rw [this, List.map_id]
theorem evBd_ok {R : RegL} {H : KT.H K} {X : List SProp} {T : TypeId} {parts : Array (Nat × Operand)} {v : V} {nt : Nat} {a : Act} (s : Sat B w (dH K ρ H ++ X)) (r : Regs nt a (dR ρ R)) (h : evBd K P R H T parts.toList = some v) :
    ∀ w', (Instr.build T (parts.map fun (i, x) => (i, a.eval x))).run P w' = .ok (denV ρ v) w' := by
  intro w'
  unfold evBd at h
  split at h
  · rename_i fs hU
    split at h
    · rename_i z hz
      split at h
      · rename_i pl hpl
        split at h
        · rename_i ps hps
          simp only [Option.map_eq_some_iff] at h
          obtain ⟨l, hl, rfl⟩ := h
          simp only [zeroV, Option.map_eq_some_iff] at hz
          obtain ⟨zv, hz, rfl⟩ := hz
          have hf := (fillV_ok s hl).1
          rw [conVs_den] at hf
          have e := (evPs_ok (ρ := ρ) hps).eval r
          unfold Instr.build
          rw [run_bind_ok (zero_run hz), run_bind_ok (und_run hU)]
          simp only
          have hfs : fs = fs.toList.toArray := by simp
          rw [hfs]
          simp only [List.mapM_toArray]
          rw [run_bind_ok (a := pl.toArray) (w' := w') (by rw [map_eq_pure_bind]; exact run_bind_ok (plS_run hpl))]
          simp only [Array.toList_map, e]
          have hf' : Instr.fill (fun i => pl.toArray[i]?) zv.cells (ps.map fun p => (p.1, denV ρ p.2)) = some (denVs ρ l).toArray := by simpa using hf
          rw [hf']; rfl
        · cases h
      · cases h
    · cases h
  · rename_i E hU
    split at h
    · rename_i z hz
      split at h
      · rename_i inf hi
        split at h
        · rename_i ps hps
          simp only [Option.map_eq_some_iff] at h
          obtain ⟨l, hl, rfl⟩ := h
          simp only [zeroV, Option.map_eq_some_iff] at hz
          obtain ⟨zv, hz, rfl⟩ := hz
          have hf := (fillV_ok s hl).1
          rw [conVs_den] at hf
          have e := (evPs_ok (ρ := ρ) hps).eval r
          unfold Instr.build
          rw [run_bind_ok (zero_run hz), run_bind_ok (und_run hU)]
          simp only
          have h1 : (sizeOf E).run P w' = .ok inf.size w' := by unfold sizeOf; rw [run_bind_ok (info_run hi)]; rfl
          rw [run_bind_ok h1]
          simp only [Array.toList_map, e]
          have hf' : Instr.fill (fun i => some (i * inf.size, inf.size)) zv.cells (ps.map fun p => (p.1, denV ρ p.2)) = some (denVs ρ l).toArray := by simpa using hf
          rw [hf']; rfl
        · cases h
      · cases h
    · cases h
  · cases h
theorem evBs_ok {R : RegL} {H : KT.H K} {X : List SProp} {T : TypeId} {m sz : Nat} {parts : Array (Nat × Operand)} {l : List V} {nt : Nat} {a : Act} (s : Sat B w (dH K ρ H ++ X)) (r : Regs nt a (dR ρ R)) (h : evBs K P R H T m parts.toList = some (sz, l)) :
    ∃ E, l.length = m * sz ∧ m ≤ maxLen ∧ (Instr.buildSlice T m (parts.map fun (i, x) => (i, a.eval x))).run P w = .ok (.slice (some ⟨w.heap.size, 0, none⟩) m m) (w.alloc (.cells (denVs ρ l).toArray E)) := by
  unfold evBs at h
  split at h
  · rename_i E hU
    split at h
    · rename_i inf hi
      split at h
      · rename_i z hz
        split at h
        · rename_i ps hps
          split at h
          · rename_i hB
            simp only [Option.map_eq_some_iff, Prod.mk.injEq] at h
            obtain ⟨l', hl, rfl, rfl⟩ := h
            simp only [Bool.and_eq_true] at hB
            have b1 := Nat.le_of_ble_eq_true hB.1
            have b2 : 0 < m * inf.size := Nat.le_of_ble_eq_true hB.2
            obtain ⟨hf, hlen⟩ := fillV_ok s hl
            rw [conVs_den] at hf
            have e := (evPs_ok (ρ := ρ) hps).eval r
            have hs0 : 0 < inf.size := Nat.pos_of_mul_pos_left b2
            refine ⟨E, by rw [hlen]; simp, ?_, ?_⟩
            · have : m * 1 ≤ m * inf.size := Nat.mul_le_mul_left _ hs0
              unfold maxLen; omega
            · unfold Instr.buildSlice
              rw [run_bind_ok (und_run hU)]
              simp only
              have h1 : (sizeOf E).run P w = .ok inf.size w := by unfold sizeOf; rw [run_bind_ok (info_run hi)]; rfl
              rw [run_bind_ok h1]
              rw [if_neg (by omega)]
              have h2 : (zeroValue E).run P w = .ok z w := by unfold zeroValue; rw [run_bind_ok (info_run hi)]; simp only [hz]; rfl
              simp only [Array.toList_map, e]
              have hf' : Instr.fill (fun i => some (i * inf.size, inf.size)) ((Array.range (m * inf.size)).map (z.cells[· % z.cells.size]!)) (ps.map fun p => (p.1, denV ρ p.2)) = some (denVs ρ l').toArray := by
                rw [← hf, Array.toArray_toList]
              simp only [if_neg (show ¬ m * inf.size = 0 by omega)]
              rw [run_bind_ok h2]
              show (Sem.run P _ w) = _
              simp only [pure_bind, hf']
              unfold newRow newObj
              simp [Sem.run, World.alloc_eq]
          · cases h
        · cases h
      · cases h
    · cases h
  · cases h
end
end
end Go.Proofs.YtpbkelpokpglaaaGreat
