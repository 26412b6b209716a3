/- Evaluation by itself: operations that look at no memory, but at what is known of it. No program occurs here. Evaluation by itself: slices that grow. No program occurs here. Evaluation by itself: slices that grow by a list; empty ones. No program occurs here. -/
import Derived.Test.YtpbkelpokpglaaaGreatQg
set_option linter.all false
namespace Go.Proofs.YtpbkelpokpglaaaGreat
section
open Go Go.RowKit
section
variable (K : KT)
def lenA (Z H : KT.H K) (id : Nat) : Option Nat := match get (H ++ Z) id with
  | some (.arr m _ _) => some m
  | some (.row _ xs) => some xs.length
  | some (.ro _ xs) => some xs.length
  | some (.rr _ xs) => some xs.length
  | some (.hole _ xs _ _ _) => some xs.length
  | _ => none
def rowAt (Z H : KT.H K) (id : Nat) : Option (Nat × Nat) := match get (H ++ Z) id with
  | some (.row c xs) => some (xs.length, K.sz c)
  | some (.ro c xs) => some (xs.length, K.sz c)
  | some (.rr _ xs) => some (xs.length, 1)
  | _ => none
def noIface (P : Program) (T : TypeId) : Bool := match P.underlying T with
  | some (.interface _) => false
  | some _ => true
  | none => false
/-- A piece of a slice. -/
def evSl (P : Program) (R : RegL) (n : Nat) (Z H : KT.H K) (T : TypeId) (x : Operand) (lo hi : Option Operand) : Option (List Gd × Nat × KT.H K × V) :=
  match evO R x with
  | some (.sl id) => match sliceE P T with
    | some E => match freshB K R n Z H with
      | true => match lo with
        | none => match hi with
          | some y => match evO R y with
            | some u => match intV u with
              | some (_, j, _) => match get H id with
                | some (.row c xs) => match Nat.beq (P.cellsOf E) (K.sz c) && Nat.blt 0 (K.sz c) with
                  | true => some ([⟨0 ≤ j ∧ j ≤ ((xs.length : Nat) : Int), inferInstance⟩], n + 1, (n, .row c (xs.take j.toNat)) :: del H id, .sl n)
                  | false => none
                | _ => match get (H ++ Z) id with
                  | some (.ro c xs) => match Nat.beq (P.cellsOf E) (K.sz c) && Nat.blt 0 (K.sz c) with
                    | true => some ([⟨0 ≤ j ∧ j ≤ ((xs.length : Nat) : Int), inferInstance⟩], n + 1, (n, .ro c (xs.take j.toNat)) :: H, .sl n)
                    | false => none
                  | _ => none
              | none => none
            | none => none
          | none => none
        | some y => match hi with
          | none => match evO R y with
            | some u => match intV u with
              | some (_, j, _) => match get (H ++ Z) id with
                | some (.ro c xs) => match Nat.beq (P.cellsOf E) (K.sz c) && Nat.blt 0 (K.sz c) with
                  | true => some ([⟨0 ≤ j ∧ j ≤ ((xs.length : Nat) : Int), inferInstance⟩], n + 1, (n, .ro c (xs.drop j.toNat)) :: H, .sl n)
                  | false => none
                | _ => none
              | none => none
            | none => none
          | some _ => none
      | false => none
    | none => none
  | _ => none
/-- An operation that looks at no memory: what must hold, and what follows. -/
def evX (P : Program) (R : RegL) (n : Nat) (Z H : KT.H K) (op : Op) : Option (List Gd × Nat × KT.H K × V) :=
  match evP P (lenA K Z H) R op with
  | some (gs, v) => some (gs, n, H, v)
  | none => match op with
    | .indexAddr T x y => match evO R x with
      | some (.sl id) => match evO R y with
        | some u => match intV u with
          | some (_, j, l) => match get (H ++ Z) id with
            | some (.arr m sz _) => match l with
              | true => match Nat.ble 1 sz && Nat.ble (j.toNat + 1) m && Nat.ble (topH Z) n && nnL j with
                | true => match elemSize P T with
                  | some sz' => match Nat.beq sz' sz with
                    | true => some ([], n, H, .ptr id (j.toNat * sz))
                    | false => none
                  | none => none
                | false => none
              | false => none
            | some _ => match rowAt K Z H id with
              | some (m, sz) => match elemSize P T with
                | some sz' => match Nat.beq sz' sz && freshB K R n Z H && Nat.blt id n with
                  | true => some ([⟨0 ≤ j ∧ j < ((m : Nat) : Int), inferInstance⟩], n + 1, (n, .elt id j sz) :: H, .ptr n 0)
                  | false => none
                | none => none
              | none => none
            | none => none
          | none => none
        | none => none
      | _ => none
    | .makeInterface T x => match noIface P T with
      | true => match evO R x with
        | some v => some ([], n, H, .ifc T v)
        | none => none
      | false => none
    | .build T parts => match evBd K P R H T parts.toList with
      | some v => some ([], n, H, v)
      | none => none
    | .slice T x lo hi mx => match mx with
      | none => evSl K P R n Z H T x lo hi
      | some _ => none
    | _ => none
end
section
variable {K : KT} {P : Program} {ρ : Env} {B : Nat} {w : World}
theorem arr_at {H : KT.H K} {X : List SProp} {id m sz : Nat} {vs : List V} (s : Sat B w (dH K ρ H ++ X)) (hg : get H id = some (.arr m sz vs)) :
    (ρ.s id = ⟨some ⟨(ρ.p id).1, (ρ.p id).2, none⟩, m, m⟩ ∧ vs.length = m * sz ∧ m ≤ maxLen) ∧ Sat B w (pts (ρ.p id).1 (ρ.p id).2 (denVs ρ vs) :: (dH K ρ (del H id) ++ X)) := by
  obtain ⟨h, Hh, k1, k2, a, e, ⟨h1, h2⟩, hL⟩ := s.imp (ent_get (ρ := ρ) hg)
  exact ⟨h1, h, Hh, k1, k2, a, e, h2, hL⟩
theorem sat_HZ {Z H : KT.H K} {F : SProp} (s : Sat B w (dS K ρ Z H F)) : Sat B w (dH K ρ (H ++ Z) ++ [F]) := by
  have e : dH K ρ (H ++ Z) = dH K ρ H ++ dH K ρ Z := by simp [dH]
  rw [e, List.append_assoc]; exact s
theorem lenA_ok {Z H : KT.H K} {F : SProp} {id m : Nat} (s : Sat B w (dS K ρ Z H F)) (h : lenA K Z H id = some m) : (ρ.s id).n = m := by
  unfold lenA at h
  split at h
  · rename_i hg; cases h; rw [(arr_at (sat_HZ s) hg).1.1]
  · rename_i hg; cases h; exact lenH_ok (by unfold lenH; rw [hg]) (sat_HZ s)
  · rename_i hg; cases h; exact lenH_ok (by unfold lenH; rw [hg]) (sat_HZ s)
  · rename_i hg; cases h; exact lenH_ok (by unfold lenH; rw [hg]) (sat_HZ s)
  · rename_i hg; cases h; exact lenH_ok (by unfold lenH; rw [hg]) (sat_HZ s)
  · cases h
theorem rowAt_ok {Z H : KT.H K} {F : SProp} {id m sz : Nat} (s : Sat B w (dS K ρ Z H F)) (h : rowAt K Z H id = some (m, sz)) : (ρ.s id).n = m ∧ (0 < m → ∃ b o, (ρ.s id).a = some ⟨b, o, none⟩) := by
  unfold rowAt at h
  split at h
  · rename_i c xs hg
    cases h
    obtain ⟨h1, vss, h2, h3, s2⟩ := row_at (sat_HZ s) hg
    refine ⟨h1, fun h0 => ?_⟩
    obtain ⟨r1, r2, r3, r4⟩ := sat_rowS s2 (List.mem_cons_self ..)
    rcases r4 with ⟨_, r4⟩ | ⟨b, o, r4, _⟩
    · omega
    · exact ⟨b, o, r4⟩
  · rename_i c xs hg
    cases h
    obtain ⟨h, Hh, k1, k2, a, e, ⟨h1', h2⟩, hL⟩ := (sat_HZ s).imp (ent_get (ρ := ρ) hg)
    refine ⟨h1', fun h0 => ?_⟩
    have s2 : Sat B w (roS (encF K c) (K.sz c) (ρ.s id).a (ρ.s id).c xs :: (dH K ρ (del (H ++ Z) id) ++ [F])) := ⟨h, Hh, k1, k2, a, e, h2, hL⟩
    obtain ⟨b, o, hA, _, _⟩ := (ro_sl s2 (List.mem_cons_self ..)).1.at_ h0
    exact ⟨b, o, hA⟩
  · rename_i c xs hg
    cases h
    obtain ⟨h, Hh, k1, k2, a, e, ⟨h1', ps, h2⟩, hL⟩ := (sat_HZ s).imp (ent_get (ρ := ρ) hg)
    refine ⟨h1', fun h0 => ?_⟩
    have s2 : Sat B w (lookS _ :: (dH K ρ (del (H ++ Z) id) ++ [F])) := ⟨h, Hh, k1, k2, a, e, h2, hL⟩
    obtain ⟨_, _, _, b, o, hA, _⟩ := (look_sat s2 (List.mem_cons_self ..)).2 0 _ (List.getElem?_eq_getElem h0)
    exact ⟨b, o, hA⟩
  · cases h
theorem rwsS_cat {pc : Fl K.T K.M → Value → SProp} {c : Nat} : ∀ {xs ys : List (K.T c)} {vs us : List (List Value)}, xs.length = vs.length → rwsS K pc c (xs ++ ys) (vs ++ us) = rwsS K pc c xs vs ++ rwsS K pc c ys us
  | [], _, [], _, _ => rfl
  | x :: xs, _, v :: vs, _, h => by simp only [List.cons_append, rwsS, rwsS_cat (xs := xs) (vs := vs) (by simpa using h), List.append_assoc]
  | [], _, _ :: _, _, h => by cases h
  | _ :: _, _, [], _, h => by cases h
theorem flatv_len {sz : Nat} : ∀ {vss : List (List Value)}, (∀ v ∈ vss, v.length = sz) → vss.flatten.length = vss.length * sz
  | [], _ => by simp
  | v :: vss, h => by
    rw [List.flatten_cons, List.length_append, flatv_len (vss := vss) fun u hu => h u (List.mem_cons_of_mem _ hu), h v (List.mem_cons_self ..), List.length_cons, Nat.add_mul]; omega
/-- A row is cut short. -/
theorem rowv_take {pc : Fl K.T K.M → Value → SProp} {c k cap : Nat} {A : Option Addr} {xs : List (K.T c)} {vss : List (List Value)} {L : List SProp} (hk : k ≤ xs.length) (hl : xs.length = vss.length) (hv : ∀ v ∈ vss, v.length = K.sz c)
    (s : Sat B w (rowS A xs.length cap (K.sz c) vss.flatten :: (rwsS K pc c xs vss ++ L))) : Sat B w (rowS A k cap (K.sz c) (vss.take k).flatten :: (rwsS K pc c (xs.take k) (vss.take k) ++ L)) := by
  have e1 : vss.flatten = (vss.take k).flatten ++ (vss.drop k).flatten := by rw [← List.flatten_append, List.take_append_drop]
  have e2 : (vss.take k).flatten.length = k * K.sz c := by
    rw [flatv_len fun v h => hv v (List.mem_of_mem_take h), List.length_take, Nat.min_eq_left (by omega)]
  have e3 : (vss.drop k).flatten.length = (vss.length - k) * K.sz c := by
    rw [flatv_len fun v h => hv v (List.mem_of_mem_drop h), List.length_drop]
  have s1 := sat_head (A' := rowS A k cap (K.sz c) (vss.take k).flatten) (fun h hh => by
    obtain ⟨r1, r2, r3, r4⟩ := hh
    refine ⟨e2, by omega, r3, r4.imp id ?_⟩
    rintro ⟨b, o, spare, hA, hs, hp⟩
    refine ⟨b, o, (vss.drop k).flatten ++ spare, hA, ?_, ?_⟩
    · rw [List.length_append, e3, hs, ← Nat.add_mul]; congr 1; omega
    · rw [e1, List.append_assoc] at hp; exact hp) s
  have e4 : rwsS K pc c xs vss = rwsS K pc c (xs.take k) (vss.take k) ++ rwsS K pc c (xs.drop k) (vss.drop k) := by
    conv => lhs; rw [← List.take_append_drop k xs, ← List.take_append_drop k vss]
    exact rwsS_cat (by simp; omega)
  rw [e4, List.append_assoc] at s1
  have s2 := s1.perm (show List.Perm _ (rwsS K pc c (xs.drop k) (vss.drop k) ++ (rowS A k cap (K.sz c) (vss.take k).flatten :: (rwsS K pc c (xs.take k) (vss.take k) ++ L))) from
    (List.Perm.cons _ (permS _ _ _)).trans (List.perm_middle (l₁ := rwsS K pc c (xs.drop k) (vss.drop k))).symm)
  exact s2.imp fun _ => star_post
/-- What is only read may be had twice. -/
theorem ro_copy {H : KT.H K} {X : List SProp} {id c : Nat} {xs : List (K.T c)} (hg : get H id = some (.ro c xs)) (s : Sat B w (dH K ρ H ++ X)) : Sat B w (roS (encF K c) (K.sz c) (ρ.s id).a (ρ.s id).c xs :: (dH K ρ H ++ X)) := by
  obtain ⟨h0, H0, t0⟩ := s
  have : ∀ k, star (dH K ρ H ++ X) k → star (roS (encF K c) (K.sz c) (ρ.s id).a (ρ.s id).c xs :: (dH K ρ H ++ X)) k := by
    intro k hk
    obtain ⟨j1, j2, a1, e1, ⟨_, m2⟩, mL⟩ := ent_get (ρ := ρ) hg k hk
    obtain ⟨p, hp, hΦ⟩ := m2
    refine ⟨p, k, fun b o => ?_, ?_, ⟨p, fun b o x hx => ⟨(hp b o x hx).1, hx⟩, hΦ⟩, hk⟩
    · cases hpb : p b o with
      | none => exact .inl rfl
      | some x =>
        obtain ⟨⟨v, rfl⟩, h2⟩ := hp b o x hpb
        exact .inr (.inr ⟨v, rfl, by rw [e1]; unfold join; rw [h2]⟩)
    · funext b o
      unfold join
      cases hpb : p b o with
      | none => rfl
      | some x =>
        obtain ⟨⟨v, rfl⟩, h2⟩ := hp b o x hpb
        rw [e1]; unfold join; rw [h2]
  exact ⟨h0, H0, this _ t0⟩
theorem sl_take {α : Type} {enc : α → List Value} {sz B : Nat} {A : Option Addr} {xs : List α} {k : Nat} (h1 : Sl enc sz w B A xs) : Sl enc sz w B A (xs.take k) := ⟨by have := h1.1; simp; omega, fun hne => by
  obtain ⟨b, o, e, hb, hc⟩ := h1.2 (fun e => hne (by rw [e]; simp))
  refine ⟨b, o, e, hb, fun i x hx j u hu => hc i x ?_ j u hu⟩
  rw [List.getElem?_take] at hx
  split at hx
  · exact hx
  · cases hx⟩
theorem sl_drop {α : Type} {enc : α → List Value} {sz B cap : Nat} {A A' : Option Addr} {xs : List α} {k : Nat} (hc : xs.length ≤ cap) (hA : (if cap = k then A else A.map fun a => a.add (k * sz)) = A') (h1 : Sl enc sz w B A xs) : Sl enc sz w B A' (xs.drop k) := ⟨by have := h1.1; simp; omega, fun hne => by
  obtain ⟨b, o, e, hb, hc'⟩ := h1.2 (fun e => hne (by rw [e]; simp))
  have hlt : k < xs.length := by
    refine Nat.lt_of_not_le fun hle => hne (List.drop_eq_nil_of_le hle)
  rw [if_neg (by omega), e] at hA
  refine ⟨b, o + k * sz, by rw [← hA]; simp [Addr.add], hb, fun i x hx j u hu => ?_⟩
  rw [List.getElem?_drop] at hx
  have := hc' (k + i) x hx j u hu
  rw [← this]; congr 2; rw [Nat.add_mul]; omega⟩
theorem evSl_ok {R : RegL} {n n' nt : Nat} {Z H H' : KT.H K} {F : SProp} {o : Oper} {T : TypeId} {x : Operand} {lo hi : Option Operand} {gs : List Gd} {v : V} (ho : o.op = .slice T x lo hi none) (h : evSl K P R n Z H T x lo hi = some (gs, n', H', v)) (hg : ∀ g ∈ gs, g.P) (s : Sat B w (dS K ρ Z H F)) {a : Act} (r : Regs nt a (dR ρ R)) :
    ∃ ρ', (Agree n ρ ρ' ∧ n ≤ n' ∧ dR ρ' R = dR ρ R) ∧ (ρ' = ρ ∨ topH Z ≤ n) ∧ (∀ w', Sat B w' (dS K ρ Z H F) → Sat B w' (dS K ρ' Z H' F)) ∧ ∀ w', (execOp a.eval o).run P w' = .ok (.value (denV ρ' v)) w' := by
  obtain ⟨d, op, ty, ps, af, g⟩ := o
  simp only at ho
  subst ho
  unfold evSl at h
  split at h
  · rename_i id hx
    split at h
    · rename_i E hE
      split at h
      · rename_i hB
        simp only [Bool.and_eq_true, freshB] at hB
        obtain ⟨⟨b1, b2⟩, b3⟩ := hB
        have b1' := Nat.le_of_ble_eq_true b1
        have b2' := Nat.le_of_ble_eq_true b2
        have b3' := Nat.le_of_ble_eq_true b3
        have ex := evO_ok (ρ := ρ) hx
        simp only [denV] at ex
        have cases3 : ∀ {A' : Option Addr} {m cap c : Nat} {ys : List (K.T c)} {Hx : KT.H K} {ch : Ch K.T K.M}, topH Hx ≤ n → (∀ ρ' : Env, ρ'.s n = ⟨A', m, cap⟩ → ∀ w', Sat B w' (dS K ρ Z H F) → Sat B w' (denC K ρ' n ch :: (dH K ρ Hx ++ tl K Z F ρ))) → OP P nt ⟨d, .slice T x lo hi none, ty, ps, af, g⟩ (dR ρ R) (.slice A' m cap) →
            ∃ ρ', (Agree n ρ ρ' ∧ n ≤ n + 1 ∧ dR ρ' R = dR ρ R) ∧ (ρ' = ρ ∨ topH Z ≤ n) ∧ (∀ w', Sat B w' (dS K ρ Z H F) → Sat B w' (dS K ρ' Z ((n, ch) :: Hx) F)) ∧ ∀ w', (execOp a.eval ⟨d, .slice T x lo hi none, ty, ps, af, g⟩).run P w' = .ok (.value (denV ρ' (.sl n))) w' := by
          intro A' m cap c ys Hx ch htop hden hop
          have ha := agree_setS ρ n ⟨A', m, cap⟩
          refine ⟨ρ.setS n ⟨A', m, cap⟩, ⟨ha, Nat.le_succ _, (dR_agree ha R b1').symm⟩, .inr b2', fun w' s' => ?_, fun w' => ?_⟩
          · have := hden (ρ.setS n ⟨A', m, cap⟩) (by simp [Env.setS]) w' s'
            rw [dH_agree ha Hx htop, tl_agree b2' ha] at this
            exact this
          · rw [hop a w' r]; simp [denV, Env.setS]
        split at h
        · split at h
          · rename_i y
            split at h
            · rename_i u hy
              split at h
              · rename_i k j l hi
                have ey := evR_int (ρ := ρ) hy hi
                split at h
                · rename_i c xs hgr
                  split at h
                  · rename_i hz
                    cases h
                    simp only [Bool.and_eq_true] at hz
                    have hz1 := Nat.eq_of_beq_eq_true hz.1
                    have hz2 : 0 < K.sz c := Nat.le_of_ble_eq_true hz.2
                    have hj : 0 ≤ j ∧ j ≤ ((xs.length : Nat) : Int) := hg _ (List.mem_singleton.2 rfl)
                    obtain ⟨h1, vss, h2, h3, s2⟩ := row_at s hgr
                    obtain ⟨r1, r2, r3, r4⟩ := sat_rowS s2 (List.mem_cons_self ..)
                    have hjn : (j.toNat : Int) = j := Int.toNat_of_nonneg hj.1
                    have hop := op_slice_h (P := P) (n := nt) (d := d) (ty := ty) (ps := ps) (af := af) (g := g) (h' := j.toNat) ex (sliceE_und hE) hz1 hz2 (by rw [hjn]; exact ey) (by omega)
                    refine cases3 (c := c) (ys := xs) (Nat.le_trans topH_del b3') (fun ρ' hρ w' s' => ?_) hop
                    obtain ⟨h1', vss', h2', h3', s2'⟩ := row_at s' hgr
                    have s3 := rowv_take (k := j.toNat) (by omega) h2' h3' s2'
                    obtain ⟨hh, Hh, hs⟩ := s3
                    have hs' : star ((rowS (ρ.s id).a j.toNat (ρ.s id).c (K.sz c) (vss'.take j.toNat).flatten :: rwsS K (pcS K) c (xs.take j.toNat) (vss'.take j.toNat)) ++ (dH K ρ (del H id) ++ tl K Z F ρ)) hh := hs
                    obtain ⟨k1, k2, a', e', g1, g2⟩ := star_append.1 hs'
                    refine ⟨hh, Hh, k1, k2, a', e', ?_, g2⟩
                    have hlen : (xs.take j.toNat).length = j.toNat := by rw [List.length_take, Nat.min_eq_left (by omega)]
                    refine ⟨by rw [hρ, hlen]; rfl, rwS_iff.2 ⟨vss'.take j.toNat, ?_⟩⟩
                    rw [hρ, hlen]; exact g1
                  · cases h
                · split at h
                  · rename_i c xs hgr
                    split at h
                    · rename_i hz
                      cases h
                      simp only [Bool.and_eq_true] at hz
                      have hz1 := Nat.eq_of_beq_eq_true hz.1
                      have hz2 : 0 < K.sz c := Nat.le_of_ble_eq_true hz.2
                      have hj : 0 ≤ j ∧ j ≤ ((xs.length : Nat) : Int) := hg _ (List.mem_singleton.2 rfl)
                      have s2 := ro_copy hgr (sat_HZ s)
                      have hsl := ro_sl s2 (List.mem_cons_self ..)
                      have hjn : (j.toNat : Int) = j := Int.toNat_of_nonneg hj.1
                      have hop := op_slice_h (P := P) (n := nt) (d := d) (ty := ty) (ps := ps) (af := af) (g := g) (h' := j.toNat) ex (sliceE_und hE) hz1 hz2 (by rw [hjn]; exact ey) (by omega)
                      refine cases3 (c := c) (ys := xs) b3' (fun ρ' hρ w' s' => ?_) hop
                      have s3 := ro_copy hgr (sat_HZ s')
                      have hlen : (xs.take j.toNat).length = j.toNat := by rw [List.length_take, Nat.min_eq_left (by omega)]
                      have e : dH K ρ (H ++ Z) = dH K ρ H ++ dH K ρ Z := by simp [dH]
                      rw [e, List.append_assoc] at s3
                      refine sat_head (fun k hk => ?_) s3
                      refine ⟨by rw [hρ, hlen]; rfl, ?_⟩
                      rw [hρ]
                      exact look_mono (fun u ⟨q1, q2⟩ => ⟨sl_take q1, by rw [hlen]; show j.toNat ≤ (ρ.s id).c - 0; omega⟩) k hk
                    · cases h
                  · cases h
              · cases h
            · cases h
          · cases h
        · rename_i y
          split at h
          · split at h
            · rename_i u hy
              split at h
              · rename_i k j l hi
                have ey := evR_int (ρ := ρ) hy hi
                split at h
                · rename_i c xs hgr
                  split at h
                  · rename_i hz
                    cases h
                    simp only [Bool.and_eq_true] at hz
                    have hz1 := Nat.eq_of_beq_eq_true hz.1
                    have hz2 : 0 < K.sz c := Nat.le_of_ble_eq_true hz.2
                    have hj : 0 ≤ j ∧ j ≤ ((xs.length : Nat) : Int) := hg _ (List.mem_singleton.2 rfl)
                    have s2 := ro_copy hgr (sat_HZ s)
                    have hsl := ro_sl s2 (List.mem_cons_self ..)
                    have hn : (ρ.s id).n = xs.length := lenH_ok (by unfold lenH; rw [hgr]) (sat_HZ s)
                    have hjn : (j.toNat : Int) = j := Int.toNat_of_nonneg hj.1
                    have hop := op_slice_l (P := P) (n := nt) (d := d) (ty := ty) (ps := ps) (af := af) (g := g) (l := j.toNat) ex (sliceE_und hE) hz1 hz2 (by rw [hjn]; exact ey) (by omega) (by omega) rfl
                    refine cases3 (c := c) (ys := xs) b3' (fun ρ' hρ w' s' => ?_) hop
                    have s3 := ro_copy hgr (sat_HZ s')
                    have e : dH K ρ (H ++ Z) = dH K ρ H ++ dH K ρ Z := by simp [dH]
                    rw [e, List.append_assoc] at s3
                    refine sat_head (fun k hk => ?_) s3
                    refine ⟨by rw [hρ, List.length_drop, ← hn], ?_⟩
                    rw [hρ]
                    exact look_mono (fun u ⟨q1, q2⟩ => ⟨sl_drop q2 rfl q1, by rw [List.length_drop]; show _ ≤ (ρ.s id).c - _; omega⟩) k hk
                  · cases h
                · cases h
              · cases h
            · cases h
          · cases h
      · cases h
    · cases h
  · cases h
theorem evX_ok {R : RegL} {n n' nt : Nat} {Z H H' : KT.H K} {F : SProp} {o : Oper} {gs : List Gd} {v : V} (h : evX K P R n Z H o.op = some (gs, n', H', v)) (hg : ∀ g ∈ gs, g.P) (s : Sat B w (dS K ρ Z H F)) {a : Act} (r : Regs nt a (dR ρ R)) :
    ∃ ρ', (Agree n ρ ρ' ∧ n ≤ n' ∧ dR ρ' R = dR ρ R) ∧ (ρ' = ρ ∨ topH Z ≤ n) ∧ (∀ w', Sat B w' (dS K ρ Z H F) → Sat B w' (dS K ρ' Z H' F)) ∧ ∀ w', (execOp a.eval o).run P w' = .ok (.value (denV ρ' v)) w' := by
  unfold evX at h
  split at h
  · rename_i gs' v' he
    cases h
    exact ⟨ρ, ⟨Agree.refl _ _, Nat.le_refl _, rfl⟩, .inl rfl, fun _ s => s, fun w' => evP_ok (n := nt) (fun id m h => lenA_ok s h) he hg a w' r⟩
  · obtain ⟨d, op, ty, ps, af, g⟩ := o
    simp only at h
    split at h
    · rename_i T x y
      split at h
      · rename_i id hx
        split at h
        · rename_i u hy
          split at h
          · rename_i k j l hi
            have ex := evO_ok (ρ := ρ) hx
            have ey := evR_int (ρ := ρ) hy hi
            split at h
            · rename_i m sz vs hg2
              split at h
              · split at h
                · rename_i hB
                  split at h
                  · rename_i sz' he
                    split at h
                    · rename_i hsz
                      cases h
                      obtain rfl := Nat.eq_of_beq_eq_true hsz
                      simp only [Bool.and_eq_true] at hB
                      obtain ⟨⟨⟨b1, b2⟩, b3⟩, b4⟩ := hB
                      have b2' := Nat.le_of_ble_eq_true b2
                      have b4' := nnL_le b4
                      obtain ⟨h1, h2, h3⟩ := (arr_at (sat_HZ s) hg2).1
                      simp only [denV, h1] at ex
                      have := op_index (P := P) (n := nt) (d := d) (ty := ty) (ps := ps) (af := af) (g := g) (i := j.toNat) (o' := (ρ.p id).2 + j.toNat * sz') ex ey (by omega) (by omega) he rfl
                      exact ⟨ρ, ⟨Agree.refl _ _, Nat.le_refl _, rfl⟩, .inl rfl, fun _ s => s, fun w' => this a w' r⟩
                    · cases h
                  · cases h
                · cases h
              · cases h
            · split at h
              · rename_i m sz hr
                split at h
                · rename_i sz' he
                  split at h
                  · rename_i hB
                    cases h
                    simp only [Bool.and_eq_true, freshB] at hB
                    obtain ⟨⟨b0, ⟨⟨b1, b2⟩, b3⟩⟩, b4⟩ := hB
                    obtain rfl := Nat.eq_of_beq_eq_true b0
                    have b2' := Nat.le_of_ble_eq_true b2
                    have b3' := Nat.le_of_ble_eq_true b3
                    have b4' : id < n := Nat.le_of_ble_eq_true b4
                    have hj : 0 ≤ j ∧ j < ((m : Nat) : Int) := hg _ (List.mem_singleton.2 rfl)
                    obtain ⟨h1, h2⟩ := rowAt_ok s hr
                    obtain ⟨b, o2, hA⟩ := h2 (by omega)
                    have ha := agree_setP ρ n (b, o2 + j.toNat * sz')
                    have hlt : j.toNat < (ρ.s id).n := by omega
                    simp only [denV, hA] at ex
                    have hop := op_index (P := P) (n := nt) (d := d) (ty := ty) (ps := ps) (af := af) (g := g) (i := j.toNat) (o' := o2 + j.toNat * sz') ex ey (by omega) hlt he rfl
                    refine ⟨ρ.setP n (b, o2 + j.toNat * sz'), ⟨ha, Nat.le_succ _, (dR_agree ha R (Nat.le_of_ble_eq_true b1)).symm⟩, .inr b2', fun w' s' => ?_, fun w' => ?_⟩
                    · have e1 : dS K ρ Z H F = dS K (ρ.setP n (b, o2 + j.toNat * sz')) Z H F := by unfold dS; rw [dH_agree ha H b3', tl_agree b2' ha]
                      rw [e1] at s'
                      refine sat_pureI s' fun k => ?_
                      refine ⟨⟨hj.1, ?_⟩, b, o2, ?_, ?_⟩
                      · show j < (((ρ.setP n (b, o2 + j.toNat * sz')).s id).n : Int)
                        simp only [Env.setP]; omega
                      · simp only [Env.setP]; exact hA
                      · simp [Env.setP]
                    · rw [hop a w' r]; simp [denV, Env.setP]
                  · cases h
                · cases h
              · cases h
            · cases h
          · cases h
        · cases h
      · cases h
    · rename_i T x _
      split at h
      · rename_i hT
        split at h
        · rename_i u hx
          cases h
          refine ⟨ρ, ⟨Agree.refl _ _, Nat.le_refl _, rfl⟩, .inl rfl, fun _ s => s, fun w' => ?_⟩
          have ex := (evO_ok (ρ := ρ) hx).eval r
          simp only [execOp, ex]
          unfold noIface at hT
          have hm : (Instr.makeInterface T (denV ρ u)).run P w' = .ok (.iface T (denV ρ u)) w' := by
            unfold Instr.makeInterface
            split at hT
            · cases hT
            · rename_i d hU hni
              rw [run_bind_ok (und_run hni)]
              cases d <;> first | rfl | (exfalso; exact hU _ rfl)
            · cases hT
          rw [run_bind_ok hm]; rfl
        · cases h
      · cases h
    · rename_i T parts _
      split at h
      · rename_i u hb
        cases h
        refine ⟨ρ, ⟨Agree.refl _ _, Nat.le_refl _, rfl⟩, .inl rfl, fun _ s => s, fun w' => ?_⟩
        have := evBd_ok s r hb w'
        simp only [execOp]
        rw [run_bind_ok this]; rfl
      · cases h
    · split at h
      · exact evSl_ok rfl h hg s r
      · cases h
    · cases h
end
end
section
open Go Go.RowKit
section
variable (K : KT)
/-- The elements that cells make. -/
def arrEl (c : Nat) : Nat → KT.H K → List V → Option (List (K.T c) × KT.H K)
  | 0, H, [] => some ([], H)
  | 0, _, _ :: _ => none
  | m + 1, H, vs => match asmL K (asm K) H (K.vw c (K.df c)) ((vs.take (K.sz c)).map .v) with
    | some (l, H1) => match K.bk c l with
      | some x => match arrEl c m H1 (vs.drop (K.sz c)) with
        | some (xs, H2) => some (x :: xs, H2)
        | none => none
      | none => none
    | none => none
end
section
variable {K : KT} {ρ : Env} {B : Nat} {w : World}
theorem arrEl_ok {c : Nat} : ∀ {m : Nat} {H H' : KT.H K} {vs : List V} {ys : List (K.T c)}, arrEl K c m H vs = some (ys, H') → ∀ {X : List SProp}, Sat B w (dH K ρ H ++ X) →
    ∃ vss : List (List Value), denVs ρ vs = vss.flatten ∧ (∀ v ∈ vss, v.length = K.sz c) ∧ vss.length = m ∧ ys.length = m ∧ Sat B w (rwsS K (pcS K) c ys vss ++ (dH K ρ H' ++ X))
  | 0, H, H', [], ys, h, X, s => by cases h; exact ⟨[], rfl, fun _ h => (by cases h), rfl, rfl, s⟩
  | 0, _, _, _ :: _, _, h, _, _ => by cases h
  | m + 1, H, H', vs, ys, h, X, s => by
    unfold arrEl at h
    split at h
    · rename_i l H1 hl
      split at h
      · rename_i x hx
        split at h
        · rename_i xs H2 hm
          cases h
          have s1 := asmL_ok asm_ok hl (ρ := ρ) (X := X) (vs := denVs ρ (vs.take (K.sz c))) (s.imp fun k hk => fsS_vals hk)
          have s2 : Sat B w (dH K ρ H1 ++ (fsS (pcS K) l (denVs ρ (vs.take (K.sz c))) ++ X)) := s1.perm (permS _ _ _)
          obtain ⟨vss, e, hl2, hl3, hl4, s3⟩ := arrEl_ok hm s2
          refine ⟨denVs ρ (vs.take (K.sz c)) :: vss, ?_, fun v hv => ?_, by simp [hl3], by simp [hl4], ?_⟩
          · rw [List.flatten_cons, ← e, ← denVs_app, List.take_append_drop]
          · rcases List.mem_cons.1 hv with e1 | e1
            · subst e1
              obtain ⟨a1, a2⟩ := asmL_len hl
              rw [List.length_map, K.sz_ok] at a2
              rw [denVs_map, List.length_map, ← a2]
            · exact hl2 v e1
          · simp only [rwsS, List.append_assoc]
            rw [K.bk_ok _ _ _ hx]
            refine s3.perm ?_
            rw [← List.append_assoc (dH K ρ H')]
            refine List.Perm.trans ?_ ((permS (rwsS K (pcS K) c xs vss) (fsS (pcS K) l (denVs ρ (vs.take (K.sz c)))) (dH K ρ H' ++ X)))
            refine List.Perm.append_left _ ?_
            rw [List.append_assoc]
            exact permS _ _ _
        · cases h
      · cases h
    · cases h
theorem rwsS_app {pc : Fl K.T K.M → Value → SProp} {c : Nat} : ∀ {xs ys : List (K.T c)} {vs us : List (List Value)}, xs.length = vs.length → rwsS K pc c (xs ++ ys) (vs ++ us) = rwsS K pc c xs vs ++ rwsS K pc c ys us
  | [], _, [], _, _ => rfl
  | x :: xs, _, v :: vs, _, h => by simp only [List.cons_append, rwsS, rwsS_app (xs := xs) (vs := vs) (by simpa using h), List.append_assoc]
  | [], _, _ :: _, _, h => by cases h
  | _ :: _, _, [], _, h => by cases h
end
def zszB : Option Value → Nat → Bool
  | some z, n => Nat.beq z.cells.size n
  | none, _ => false
theorem zszB_ok {o : Option Value} {n : Nat} (h : zszB o n = true) : ∃ z, o = some z ∧ z.cells.size = n := by
  cases o with
  | none => cases h
  | some z => exact ⟨z, rfl, Nat.eq_of_beq_eq_true h⟩
section
variable (K : KT)
/-- The row that grows, and what is left. -/
def rowOf (H : KT.H K) (E : TypeId) : V → Option ((c : Nat) × List (K.T c) × KT.H K)
  | .sl id => match get H id with
    | some (.row c xs) => some ⟨c, xs, del H id⟩
    | _ => none
  | .c (.slice none 0 0) => match K.tk E with
    | some c => some ⟨c, [], H⟩
    | none => none
  | _ => none
/-- A literal slice is made. -/
def evBl (P : Program) (R : RegL) (n : Nat) (Z H : KT.H K) (T : TypeId) (m : Nat) (parts : List (Nat × Operand)) : Option (Nat × KT.H K × V) :=
  match evBs K P R H T m parts with
  | some (sz, l) => match freshB K R n Z H && Nat.ble (topVs l) n with
    | true => some (n + 1, (n, .arr m sz l) :: H, .sl n)
    | false => none
  | none => none
/-- append of a literal slice. -/
def evAp (P : Program) (R : RegL) (n : Nat) (Z H : KT.H K) (T T' : TypeId) (x y : V) : Option (List Gd × Nat × KT.H K × V) :=
  match Nat.beq T T' with
  | true => match sliceE P T with
    | some E => match P.info? E with
      | some inf => match rowOf K H E x with
        | some ⟨c, xs, H1⟩ => match y with
          | .sl id2 => match get H1 id2 with
            | some (.arr m sz vs) => match Nat.beq sz (K.sz c) && Nat.beq inf.size sz && zszB inf.zero sz && Nat.blt 0 m && Nat.blt 0 sz && Nat.ble inf.bytes 140 && vs.all (scV (del H1 id2)) && freshB K R n Z H with
              | true => match arrEl K c m (del H1 id2) vs with
                | some (ys, H2) => match Nat.ble (topH H2) n with
                  | true => some ([⟨(((xs.length + m : Nat)) : Int) < 1000000000000, inferInstance⟩], n + 1, (n, .row c (xs ++ ys)) :: H2, .sl n)
                  | false => none
                | none => none
              | false => none
            | _ => none
          | _ => none
        | none => none
      | none => none
    | none => none
  | false => none
end
section
variable {K : KT} {P : Program} {nt n B : Nat} {W : World} {R : RegL} {Z H : KT.H K} {nx : Nat → KT.H K → V → Prop}
theorem step_bl {o : Oper} {T : TypeId} {m : Nat} {parts : Array (Nat × Operand)} {n' : Nat} {H' : KT.H K} {v : V} (ho : o.op = .buildSlice T m parts) (h : evBl K P R n Z H T m parts.toList = some (n', H', v)) (hn : nx n' H' v) : StepOk K P nt B W o R n Z H nx := fun F ρ a w s => by
  obtain ⟨d, op, ty, ps, af, g⟩ := o
  simp only at ho
  subst ho
  unfold evBl at h
  split at h
  · rename_i sz l hb
    split at h
    · rename_i hB
      cases h
      simp only [Bool.and_eq_true, freshB] at hB
      obtain ⟨⟨⟨b1, b2⟩, b3⟩, b4⟩ := hB
      have b2' := Nat.le_of_ble_eq_true b2
      obtain ⟨E, hl, hm, hr⟩ := evBs_ok s.sat s.regs hb
      have : (execOp a.eval ⟨d, .buildSlice T m parts, ty, ps, af, g⟩).run P w = .ok (.value (.slice (some ⟨w.heap.size, 0, none⟩) m m)) (w.alloc (.cells (denVs ρ l).toArray E)) := by
        simp only [execOp]
        rw [run_bind_ok hr]; rfl
      rw [this]
      let ρ' := (ρ.setP n (w.heap.size, 0)).setS n ⟨some ⟨w.heap.size, 0, none⟩, m, m⟩
      have ha : Agree n ρ ρ' := (agree_setP ρ n (w.heap.size, 0)).trans (agree_setS _ n _) (Nat.le_refl _)
      refine ⟨⟨ρ', n + 1, _, .sl n⟩, by simp [denV, ρ', Env.setS], ⟨ha, Nat.le_succ _, (dR_agree ha R (Nat.le_of_ble_eq_true b1)).symm, hn⟩, below_fresh s.below s.lo _, by simpa using Nat.le_succ_of_le s.lo, ?_⟩
      have s1 := s.sat.fresh (cs := (denVs ρ l).toArray) (T := E) s.lo
      refine s1.imp fun h hk => ?_
      obtain ⟨k1, k2, a', e', hp, hq⟩ := hk
      refine ⟨k1, k2, a', e', ⟨⟨?_, hl, hm⟩, ?_⟩, ?_⟩
      · simp [ρ', Env.setS, Env.setP]
      · rw [← denVs_agree ha l (Nat.le_of_ble_eq_true b4)]
        simpa [ρ', Env.setS, Env.setP] using hp
      · rw [dS, dH_agree ha H (Nat.le_of_ble_eq_true b3), tl_agree b2' ha] at hq
        exact hq
    · cases h
  · cases h
theorem rowOf_ok {E : TypeId} {x : V} {c : Nat} {xs : List (K.T c)} {H1 : KT.H K} (h : rowOf K H E x = some ⟨c, xs, H1⟩) {ρ : Env} {w : World} {X : List SProp} (s : Sat B w (dH K ρ H ++ X)) :
    ∃ A cap, denV ρ x = .slice A xs.length cap ∧ topH H1 ≤ topH H ∧ ∃ vss : List (List Value), xs.length = vss.length ∧ (∀ vs ∈ vss, vs.length = K.sz c) ∧ Sat B w (rowS A xs.length cap (K.sz c) vss.flatten :: (rwsS K (pcS K) c xs vss ++ (dH K ρ H1 ++ X))) := by
  unfold rowOf at h
  split at h
  · rename_i id
    split at h
    · rename_i c' xs' hg
      cases h
      obtain ⟨h1, vss, h2, h3, s2⟩ := row_at s hg
      exact ⟨_, _, by rw [denV, h1], topH_del, vss, h2, h3, s2⟩
    · cases h
  · split at h
    · cases h
      exact ⟨none, 0, rfl, Nat.le_refl _, [], rfl, fun _ h => (by cases h), s.imp (ent_nil _)⟩
    · cases h
  · cases h
theorem step_ap {o : Oper} {T T' : TypeId} {x y : Operand} {u v : V} {gs : List Gd} {n' : Nat} {H' : KT.H K} {r : V} (ho : o.op = .call ⟨.builtin .append, #[x, y], #[T, T']⟩) (hx : evO R x = some u) (hy : evO R y = some v) (h : evAp K P R n Z H T T' u v = some (gs, n', H', r)) (hg : ∀ g ∈ gs, g.P) (hn : nx n' H' r) :
    StepOk K P nt B W o R n Z H nx := fun F ρ a w s => by
  obtain ⟨d, op, ty, ps, af, g⟩ := o
  simp only at ho
  subst ho
  have ex := (evO_ok (ρ := ρ) hx).eval s.regs
  have ey := (evO_ok (ρ := ρ) hy).eval s.regs
  unfold evAp at h
  split at h
  · rename_i hT
    obtain rfl := Nat.eq_of_beq_eq_true hT
    split at h
    · rename_i E hE
      split at h
      · rename_i inf hi
        split at h
        · rename_i c xs H1 hr
          split at h
          · rename_i id2
            split at h
            · rename_i m sz vs hg2
              split at h
              · rename_i hB
                split at h
                · rename_i ys H2 hel
                  split at h
                  · rename_i hB2
                    cases h
                    simp only [Bool.and_eq_true, freshB] at hB
                    obtain ⟨⟨⟨⟨⟨⟨⟨b0, b1⟩, b2⟩, b3⟩, b4⟩, b5⟩, b6⟩, ⟨⟨b7, b8⟩, b9⟩⟩ := hB
                    obtain rfl := Nat.eq_of_beq_eq_true b0
                    have b1' := Nat.eq_of_beq_eq_true b1
                    obtain ⟨z, hz, hzsz⟩ := zszB_ok b2
                    have b3' : 0 < m := Nat.le_of_ble_eq_true b3
                    have b4' : 0 < K.sz c := Nat.le_of_ble_eq_true b4
                    have b5' := Nat.le_of_ble_eq_true b5
                    have b8' := Nat.le_of_ble_eq_true b8
                    have b9' := Nat.le_of_ble_eq_true b9
                    have hB2' := Nat.le_of_ble_eq_true hB2
                    have hguard : (((xs.length + m : Nat)) : Int) < 1000000000000 := hg _ (List.mem_singleton.2 rfl)
                    obtain ⟨A, cap, hdx, htop, vss, h2, h3, s2⟩ := rowOf_ok hr s.sat
                    -- the literal slice
                    have s3 : Sat B w (dH K ρ H1 ++ (rowS A xs.length cap (K.sz c) vss.flatten :: (rwsS K (pcS K) c xs vss ++ tl K Z F ρ))) := s2.perm (by
                      refine List.Perm.symm ?_
                      refine (List.perm_middle (l₁ := dH K ρ H1)).trans (List.Perm.cons _ ?_)
                      exact permS _ _ _)
                    obtain ⟨⟨a1, a2, a3⟩, s4⟩ := arr_at s3 hg2
                    have s5 : Sat B w (dH K ρ (del H1 id2) ++ (pts (ρ.p id2).1 (ρ.p id2).2 (denVs ρ vs) :: rowS A xs.length cap (K.sz c) vss.flatten :: (rwsS K (pcS K) c xs vss ++ tl K Z F ρ))) := s4.perm (List.perm_middle (l₁ := dH K ρ (del H1 id2))).symm
                    obtain ⟨vs2, e1, e2, e3, e4, s6⟩ := arrEl_ok hel s5
                    have hsc : (denVs ρ vs).all scalar = true := by
                      rw [denVs_map, List.all_map, List.all_eq_true]
                      intro q hq
                      exact scV_ok (List.all_eq_true.1 b6 q hq) s5
                    have s7 : Sat B w (rowS A xs.length cap (K.sz c) vss.flatten :: pts (ρ.p id2).1 (ρ.p id2).2 (denVs ρ vs) :: (rwsS K (pcS K) c ys vs2 ++ (rwsS K (pcS K) c xs vss ++ (dH K ρ H2 ++ tl K Z F ρ)))) := by
                      refine s6.perm ?_
                      refine (List.Perm.append_left _ (List.perm_middle (l₁ := dH K ρ H2))).trans ?_
                      refine (List.perm_middle (l₁ := rwsS K (pcS K) c ys vs2)).trans ?_
                      refine List.Perm.trans (List.Perm.cons _ ?_) (List.Perm.swap ..)
                      refine (List.Perm.append_left _ (List.perm_middle (l₁ := dH K ρ H2))).trans ?_
                      refine (List.perm_middle (l₁ := rwsS K (pcS K) c ys vs2)).trans (List.Perm.cons _ ?_)
                      exact List.Perm.append_left _ (permS _ _ _)
                    have hby : (xs.length + m) * inf.bytes ≤ 140737488355328 := by
                      have h1 : xs.length + m ≤ 1000000000000 := by omega
                      have h2 : (xs.length + m) * inf.bytes ≤ 1000000000000 * 140 := Nat.mul_le_mul h1 b5'
                      omega
                    obtain ⟨A', cap', w', hrun, c1, c2, c3⟩ := append_sat (ty := ty) (c := m) (W := W) (sliceE_und hE) ⟨inf, hi, hz, b1', rfl⟩ hzsz b4' s7 s.below s.lo (by rw [denVs_map]; simpa using a2) hsc b3' (by unfold maxLen; omega) hby
                    have : (execOp a.eval ⟨d, .call ⟨.builtin .append, #[x, y], #[T, T]⟩, ty, ps, af, g⟩).run P w = .ok (.value (.slice A' (xs.length + m) cap')) w' := by
                      simp only [execOp, resolve, List.map_toArray, List.map_cons, List.map_nil, ex, ey, hdx, denV, a1]
                      simp only [invoke, builtin]
                      simp [hrun]
                    rw [this]
                    have ha := agree_setS ρ n ⟨A', xs.length + m, cap'⟩
                    refine ⟨⟨ρ.setS n ⟨A', xs.length + m, cap'⟩, n + 1, _, .sl n⟩, by simp [denV, Env.setS], ⟨ha, Nat.le_succ _, (dR_agree ha R (Nat.le_of_ble_eq_true b7)).symm, hn⟩, c1, c2, ?_⟩
                    refine c3.imp fun k hk => ?_
                    obtain ⟨k1, k2, a', e', g1, g2⟩ := hk
                    have g3 := Ent.drop k2 g2
                    have g4 : star (rwsS K (pcS K) c (xs ++ ys) (vss ++ vs2) ++ (dH K ρ H2 ++ tl K Z F ρ)) k2 := by
                      rw [rwsS_app h2, List.append_assoc]
                      exact star_perm (permS _ _ _) g3
                    have g5 : star ((rowS A' (xs ++ ys).length cap' (K.sz c) (vss ++ vs2).flatten :: rwsS K (pcS K) c (xs ++ ys) (vss ++ vs2)) ++ (dH K ρ H2 ++ tl K Z F ρ)) k := by
                      refine ⟨k1, k2, a', e', ?_, g4⟩
                      rw [List.length_append, e4, List.flatten_append, ← e1]; exact g1
                    obtain ⟨j1, j2, a'', e'', q1, q2⟩ := star_append.1 g5
                    refine ⟨j1, j2, a'', e'', ⟨?_, rwS_iff.2 ⟨vss ++ vs2, ?_⟩⟩, ?_⟩
                    · simp [Env.setS, e4]
                    · simpa [Env.setS] using q1
                    · rw [dH_agree ha H2 hB2', tl_agree b8' ha] at q2; exact q2
                  · cases h
                · cases h
              · cases h
            · cases h
          · cases h
        · cases h
      · cases h
    · cases h
  · cases h
end
end
section
open Go Go.RowKit
section
variable (K : KT)
/-- A list to be read. -/
def srcOf (H : KT.H K) : V → Option ((c : Nat) × List (K.T c))
  | .sl id => match get H id with
    | some (.ro c ys) => some ⟨c, ys⟩
    | some (.row c ys) => some ⟨c, ys⟩
    | _ => none
  | _ => none
/-- append of the elements of a list. -/
def evAq (P : Program) (R : RegL) (n : Nat) (Z H : KT.H K) (T T' : TypeId) (x y : V) : Option (List Gd × Nat × KT.H K × V) :=
  match Nat.beq T T' with
  | true => match sliceE P T with
    | some E => match P.info? E with
      | some inf => match rowOf K H E x with
        | some ⟨c, xs, H1⟩ => match srcOf K (H1 ++ Z) y with
          | some ⟨c', ys'⟩ => match castL c' c ys' with
            | some ys => match K.pl c && Nat.beq inf.size (K.sz c) && zszB inf.zero (K.sz c) && Nat.blt 0 (K.sz c) && Nat.ble inf.bytes 140 && freshB K R n Z H && Nat.ble (topH H1) n with
              | true => some ([⟨(((xs.length + ys.length : Nat)) : Int) < 1000000000000, inferInstance⟩], n + 1, (n, .row c (xs ++ ys)) :: H1, .sl n)
              | false => none
            | none => none
          | none => none
        | none => none
      | none => none
    | none => none
  | false => none
/-- An empty slice. -/
def evB0 (P : Program) (R : RegL) (n : Nat) (Z H : KT.H K) (T : TypeId) (m : Nat) (parts : List (Nat × Operand)) : Option (Nat × KT.H K × V) :=
  match m with
  | 0 => match parts with
    | [] => match sliceE P T with
      | some E => match P.info? E with
        | some _ => match K.tk E with
          | some c => match freshB K R n Z H with
            | true => some (n + 1, (n, .row c []) :: H, .sl n)
            | false => none
          | none => none
        | none => none
      | none => none
    | _ :: _ => none
  | _ + 1 => none
/-- A literal slice of plain things is a row. -/
def evBr (P : Program) (R : RegL) (n : Nat) (Z H : KT.H K) (T : TypeId) (m : Nat) (parts : List (Nat × Operand)) : Option (Nat × KT.H K × V) :=
  match sliceE P T with
  | some E => match K.tk E with
    | some c => match evBs K P R H T m parts with
      | some (sz, l) => match Nat.beq sz (K.sz c) && freshB K R n Z H with
        | true => match arrEl K c m H l with
          | some (ys, H2) => match Nat.ble (topH H2) n with
            | true => some (n + 1, (n, .row c ys) :: H2, .sl n)
            | false => none
          | none => none
        | false => none
      | none => none
    | none => none
  | none => none
/-- A slice of zeros. -/
def evMk (P : Program) (R : RegL) (n : Nat) (Z H : KT.H K) (T : TypeId) (x y : V) : Option (List Gd × Nat × KT.H K × V) :=
  match sliceE P T with
  | some E => match K.tk E with
    | some c => match intV x with
      | some (_, a, _) => match intV y with
        | some (_, b, _) => match intT P E with
          | some k => match P.info? E with
            | some inf => match inf.zero with
              | some (.int k' 0) => match K.bk c [.i k 0] with
                | some x0 => match sameK k k' && Nat.beq inf.size 1 && Nat.beq (K.sz c) 1 && Nat.ble inf.bytes 128 && freshB K R n Z H with
                  | true => some ([⟨a = b, inferInstance⟩, ⟨0 ≤ a ∧ a ≤ 1099511627776, inferInstance⟩], n + 1, (n, .row c (List.replicate a.toNat x0)) :: H, .sl n)
                  | false => none
                | none => none
              | _ => none
            | none => none
          | none => none
        | none => none
      | none => none
    | none => none
  | none => none
/-- append of a row, whose elements are given away. -/
def evAr (P : Program) (R : RegL) (n : Nat) (Z H : KT.H K) (T T' : TypeId) (x y : V) : Option (List Gd × Nat × KT.H K × V) :=
  match Nat.beq T T' with
  | true => match sliceE P T with
    | some E => match P.info? E with
      | some inf => match rowOf K H E x with
        | some ⟨c, xs, H1⟩ => match y with
          | .sl id2 => match get H1 id2 with
            | some (.row c' ys') => match castL c' c ys' with
              | some ys => match Nat.beq inf.size (K.sz c) && zszB inf.zero (K.sz c) && Nat.blt 0 (K.sz c) && Nat.ble inf.bytes 200 && freshB K R n Z H && Nat.ble (topH (del H1 id2)) n with
                | true => some ([⟨(((xs.length + ys.length : Nat)) : Int) < 100000000000, inferInstance⟩], n + 1, (n, .row c (xs ++ ys)) :: del H1 id2, .sl n)
                | false => none
              | none => none
            | _ => none
          | _ => none
        | none => none
      | none => none
    | none => none
  | false => none
end
section
variable {K : KT} {P : Program} {nt n B : Nat} {W : World} {R : RegL} {Z H : KT.H K} {nx : Nat → KT.H K → V → Prop}
theorem step_br {o : Oper} {T : TypeId} {m : Nat} {parts : Array (Nat × Operand)} {n' : Nat} {H' : KT.H K} {v : V} (ho : o.op = .buildSlice T m parts) (h : evBr K P R n Z H T m parts.toList = some (n', H', v)) (hn : nx n' H' v) : StepOk K P nt B W o R n Z H nx := fun F ρ a w s => by
  obtain ⟨d, op, ty, ps, af, g⟩ := o
  simp only at ho
  subst ho
  unfold evBr at h
  split at h
  · rename_i E0 hE
    split at h
    · rename_i c hc
      · split at h
        · rename_i sz l hb
          split at h
          · rename_i hB
            split at h
            · rename_i ys H2 hel
              split at h
              · rename_i hB2
                cases h
                simp only [Bool.and_eq_true, freshB] at hB
                obtain ⟨b0, ⟨⟨b1, b2⟩, b3⟩⟩ := hB
                obtain rfl := Nat.eq_of_beq_eq_true b0
                have b2' := Nat.le_of_ble_eq_true b2
                have hB2' := Nat.le_of_ble_eq_true hB2
                obtain ⟨E, hl, hm, hr⟩ := evBs_ok s.sat s.regs hb
                have : (execOp a.eval ⟨d, .buildSlice T m parts, ty, ps, af, g⟩).run P w = .ok (.value (.slice (some ⟨w.heap.size, 0, none⟩) m m)) (w.alloc (.cells (denVs ρ l).toArray E)) := by
                  simp only [execOp]
                  rw [run_bind_ok hr]; rfl
                rw [this]
                have ha := agree_setS ρ n ⟨some ⟨w.heap.size, 0, none⟩, m, m⟩
                refine ⟨⟨ρ.setS n ⟨some ⟨w.heap.size, 0, none⟩, m, m⟩, n + 1, _, .sl n⟩, by simp [denV, Env.setS], ⟨ha, Nat.le_succ _, (dR_agree ha R (Nat.le_of_ble_eq_true b1)).symm, hn⟩, below_fresh s.below s.lo _, by simpa using Nat.le_succ_of_le s.lo, ?_⟩
                have s1 := s.sat.fresh (cs := (denVs ρ l).toArray) (T := E) s.lo
                have s2 : Sat B (w.alloc (.cells (denVs ρ l).toArray E)) (dH K ρ H ++ (pts w.heap.size 0 (denVs ρ l) :: tl K Z F ρ)) := s1.perm (List.perm_middle (l₁ := dH K ρ H)).symm
                obtain ⟨vss, e1, e2, e3, e4, s3⟩ := arrEl_ok hel s2
                have s4 : Sat B (w.alloc (.cells (denVs ρ l).toArray E)) ((pts w.heap.size 0 (denVs ρ l) :: rwsS K (pcS K) c ys vss) ++ (dH K ρ H2 ++ tl K Z F ρ)) := s3.perm ((List.Perm.append_left _ (List.perm_middle (l₁ := dH K ρ H2))).trans (List.perm_middle (l₁ := rwsS K (pcS K) c ys vss)))
                refine s4.imp fun h hk => ?_
                obtain ⟨j1, j2, a'', e'', q1, q2⟩ := star_append.1 hk
                refine ⟨j1, j2, a'', e'', ⟨by simp [Env.setS, e4], rwS_iff.2 ⟨vss, star_head (fun k hp => ?_) q1⟩⟩, ?_⟩
                · rw [← e1, e4]
                  simp only [Env.setS, if_true]
                  exact rowS_of_pts (by rw [denVs_map, List.length_map]; exact hl) hm k hp
                · rw [dH_agree ha H2 hB2', tl_agree b2' ha] at q2; exact q2
              · cases h
            · cases h
          · cases h
        · cases h
    · cases h
  · cases h
theorem step_b0 {o : Oper} {T : TypeId} {m : Nat} {parts : Array (Nat × Operand)} {n' : Nat} {H' : KT.H K} {v : V} (ho : o.op = .buildSlice T m parts) (h : evB0 K P R n Z H T m parts.toList = some (n', H', v)) (hn : nx n' H' v) : StepOk K P nt B W o R n Z H nx := fun F ρ a w s => by
  obtain ⟨d, op, ty, ps, af, g⟩ := o
  simp only at ho
  subst ho
  unfold evB0 at h
  split at h
  · split at h
    · rename_i hp
      split at h
      · rename_i E hE
        split at h
        · rename_i inf hi
          split at h
          · rename_i c hc
            split at h
            · rename_i hB
              cases h
              simp only [Bool.and_eq_true, freshB] at hB
              obtain ⟨⟨b1, b2⟩, b3⟩ := hB
              have b2' := Nat.le_of_ble_eq_true b2
              have hU := sliceE_und hE
              obtain rfl : parts = #[] := by apply Array.ext'; simpa using hp
              have hr : (Instr.buildSlice T 0 (#[].map fun (i, x) => (i, a.eval x))).run P w = .ok (.slice (some ⟨w.heap.size, 0, none⟩) 0 0) (w.alloc (.cells #[] E)) := by
                unfold Instr.buildSlice
                rw [run_bind_ok (und_run hU)]
                simp only
                have h1 : (sizeOf E).run P w = .ok inf.size w := by unfold sizeOf; rw [run_bind_ok (info_run hi)]; rfl
                rw [run_bind_ok h1]
                rw [if_neg (by omega)]
                simp only [Nat.zero_mul, if_true]
                show (Sem.run P _ w) = _
                simp only [pure_bind]
                simp [Instr.fill, newRow, newObj, Sem.run, World.alloc_eq]
                congr 2
                apply Array.ext'
                simp
              have : (execOp a.eval ⟨d, .buildSlice T 0 #[], ty, ps, af, g⟩).run P w = .ok (.value (.slice (some ⟨w.heap.size, 0, none⟩) 0 0)) (w.alloc (.cells #[] E)) := by
                simp only [execOp]
                rw [run_bind_ok hr]; rfl
              rw [this]
              have ha := agree_setS ρ n ⟨some ⟨w.heap.size, 0, none⟩, 0, 0⟩
              refine ⟨⟨ρ.setS n ⟨some ⟨w.heap.size, 0, none⟩, 0, 0⟩, n + 1, _, .sl n⟩, by simp [denV, Env.setS], ⟨ha, Nat.le_succ _, (dR_agree ha R (Nat.le_of_ble_eq_true b1)).symm, hn⟩, below_fresh s.below s.lo _, by simpa using Nat.le_succ_of_le s.lo, ?_⟩
              have s1 := s.sat.fresh (cs := #[]) (T := E) s.lo
              refine s1.imp fun h hk => ?_
              obtain ⟨k1, k2, a', e', hp, hq⟩ := hk
              refine ⟨k1, k2, a', e', ⟨by simp [Env.setS], rwS_iff.2 ⟨[], k1, fun _ _ => none, fun _ _ => .inr (.inl rfl), ?_, ?_, trivial⟩⟩, ?_⟩
              · funext x y
                unfold join
                cases k1 x y <;> rfl
              · refine ⟨by simp, by simp [Env.setS], by simp [Env.setS, maxLen], .inr ⟨w.heap.size, 0, [], by simp [Env.setS], by simp [Env.setS], by simpa using hp⟩⟩
              · rw [dS, dH_agree ha H (Nat.le_of_ble_eq_true b3), tl_agree b2' ha] at hq
                exact hq
            · cases h
          · cases h
        · cases h
      · cases h
    · cases h
  · cases h
theorem append_src {A A2 : Option Addr} {m cap sz k c by_ ty : Nat} {T : TypeId} {vs us : List Value} {E : TypeId} {z : Value} {L : List SProp} {w : World} (hT : P.underlying T = some (.slice E)) (hI : infoB P E z sz by_) (hz : z.cells.size = sz) (hsz : 0 < sz)
    (hsrc : k = 0 ∨ ∃ b o, A2 = some ⟨b, o, none⟩ ∧ ∀ j u, us[j]? = some u → w.cell? ⟨b, o + j, none⟩ = some u)
    (s : Sat B w (rowS A m cap sz vs :: L)) (hb : Below B W w) (hl : B ≤ w.heap.size) (hu : us.length = k * sz) (ha : us.all scalar = true) (hlen : m + k ≤ maxLen) (hby : (m + k) * by_ ≤ 140737488355328) :
    ∃ A' cap' w', (Builtin.append_ #[T, T] ty #[.slice A m cap, .slice A2 k c]).run P w = .ok (.slice A' (m + k) cap') w' ∧ Cls B W (rowS A' (m + k) cap' sz (vs ++ us) :: L) w' := by
  rcases Nat.eq_zero_or_pos k with hk | hk
  · subst hk
    have hu0 : us = [] := List.length_eq_zero_iff.1 (by rw [hu]; simp)
    subst hu0
    obtain ⟨r1, r2, r3, r4⟩ := sat_rowS s (List.mem_cons_self ..)
    refine ⟨A, cap, w, ?_, hb, hl, by simpa using s⟩
    obtain ⟨i, hi, hz1, rfl, rfl⟩ := hI
    have h0 : (Builtin.firstCells i.size 0 (.slice A2 0 c)).run P w = .ok #[] w := by cases A2 <;> simp [Builtin.firstCells, loadCells, loadCellsFrom]
    cases A with
    | none => simp [Builtin.append_, und_run hT, sizeOf, info_run hi, Builtin.lenOf, h0, r2]
    | some a => simp [Builtin.append_, und_run hT, sizeOf, info_run hi, Builtin.lenOf, h0, r2, storeCells]
  · rcases hsrc with h0 | ⟨b, o, rfl, hc⟩
    · omega
    · exact append_gen (ty := ty) (c := c) (W := W) (b := b) (o := o) hT hI hz hsz hc s hb hl hu ha hk hlen hby
theorem plain_scalar : ∀ {l : List (Fl K.T K.M)}, plainB l = true → (l.map flV).all scalar = true
  | [], _ => rfl
  | f :: l, h => by
    cases f <;> simp only [plainB, Bool.false_eq_true] at h
    · rw [List.map_cons, List.all_cons, plain_scalar h]; rfl
    · rw [List.map_cons, List.all_cons, plain_scalar h]; rfl
theorem plain_make : ∀ {l : List (Fl K.T K.M)} {L : List SProp} {B : Nat} {w : World}, plainB l = true → Sat B w L → Sat B w (fsS (pcS K) l (l.map flV) ++ L)
  | [], _, _, _, _, s => s
  | f :: l, L, B, w, h, s => by
    cases f <;> simp only [plainB, Bool.false_eq_true] at h
    · exact sat_pureI (p := pcS K _ _) (plain_make h s) fun k => pcS_iff.2 rfl
    · exact sat_pureI (p := pcS K _ _) (plain_make h s) fun k => pcS_iff.2 rfl
theorem rows_make {c : Nat} (hc : K.pl c = true) {L : List SProp} {B : Nat} {w : World} (s : Sat B w L) : ∀ {ys : List (K.T c)}, Sat B w (rwsS K (pcS K) c ys (ys.map (encF K c)) ++ L)
  | [] => s
  | y :: ys => by
    show Sat B w ((fsS (pcS K) (K.vw c y) ((K.vw c y).map flV) ++ rwsS K (pcS K) c ys (ys.map (encF K c))) ++ L)
    rw [List.append_assoc]
    exact plain_make (K.pl_ok c hc y) (rows_make hc s)
theorem flat_inv {α : Type} {enc : α → List Value} {sz : Nat} (henc : ∀ x, (enc x).length = sz) : ∀ {xs : List α} {j : Nat} {u : Value}, (xs.flatMap enc)[j]? = some u → ∃ i q x, xs[i]? = some x ∧ (enc x)[q]? = some u ∧ j = i * sz + q
  | [], j, u, h => by cases h
  | x :: xs, j, u, h => by
    rw [List.flatMap_cons] at h
    by_cases hj : j < sz
    · rw [List.getElem?_append_left (by rw [henc]; exact hj)] at h
      exact ⟨0, j, x, rfl, h, by omega⟩
    · rw [List.getElem?_append_right (by rw [henc]; omega), henc] at h
      obtain ⟨i, q, y, h1, h2, h3⟩ := flat_inv henc h
      exact ⟨i + 1, q, y, by simpa using h1, h2, by rw [Nat.add_mul]; omega⟩
/-- Where the cells of a list lie. -/
theorem srcOf_ok {H : KT.H K} {y : V} {c : Nat} {ys : List (K.T c)} (h : srcOf K H y = some ⟨c, ys⟩) (hc : K.pl c = true) (hz : 0 < K.sz c) {ρ : Env} {B : Nat} {w : World} {X : List SProp} (s : Sat B w (dH K ρ H ++ X)) :
    ∃ A cap, denV ρ y = .slice A ys.length cap ∧ (ys.length = 0 ∨ ∃ b o, A = some ⟨b, o, none⟩ ∧ ∀ j u, (ys.flatMap (encF K c))[j]? = some u → w.cell? ⟨b, o + j, none⟩ = some u) := by
  have hsl : ∀ {A : Option Addr} {B' : Nat}, Sl (encF K c) (K.sz c) w B' A ys → (ys.length = 0 ∨ ∃ b o, A = some ⟨b, o, none⟩ ∧ ∀ j u, (ys.flatMap (encF K c))[j]? = some u → w.cell? ⟨b, o + j, none⟩ = some u) := fun {A B'} hS => by
    rcases Nat.eq_zero_or_pos ys.length with e | e
    · exact .inl e
    · obtain ⟨b, o, hA, _, hcell⟩ := hS.2 (fun e' => by subst e'; simp at e)
      refine .inr ⟨b, o, hA, fun j u hj => ?_⟩
      obtain ⟨i, q, x, hx, hq, rfl⟩ := flat_inv (fun x => by unfold encF; rw [List.length_map, K.sz_ok]) hj
      rw [← Nat.add_assoc]; exact hcell i x hx q u hq
  unfold srcOf at h
  split at h
  · rename_i id
    split at h
    · rename_i c' ys' hg
      cases h
      refine ⟨_, _, sl_fact s (.inr hg), ?_⟩
      have s2 := ro_copy hg s
      exact hsl (ro_sl s2 (List.mem_cons_self ..)).1
    · rename_i c' ys' hg
      cases h
      refine ⟨_, _, sl_fact s (.inl hg), ?_⟩
      obtain ⟨hh, Hh, k1, k2, a, e, ⟨h1, h2⟩, hL⟩ := s.imp (ent_get (ρ := ρ) hg)
      have s2 : Sat B w (rwS K c ys (ρ.s id).a (ρ.s id).c :: (dH K ρ (del H id) ++ X)) := ⟨hh, Hh, k1, k2, a, e, h2, hL⟩
      exact hsl (ro_sl (row_ro hc hz s2) (List.mem_cons_self ..)).1
    · cases h
  · cases h
theorem step_aq {o : Oper} {T T' : TypeId} {x y : Operand} {u v : V} {gs : List Gd} {n' : Nat} {H' : KT.H K} {r : V} (ho : o.op = .call ⟨.builtin .append, #[x, y], #[T, T']⟩) (hx : evO R x = some u) (hy : evO R y = some v) (h : evAq K P R n Z H T T' u v = some (gs, n', H', r)) (hg : ∀ g ∈ gs, g.P) (hn : nx n' H' r) :
    StepOk K P nt B W o R n Z H nx := fun F ρ a w s => by
  obtain ⟨d, op, ty, ps, af, g⟩ := o
  simp only at ho
  subst ho
  have ex := (evO_ok (ρ := ρ) hx).eval s.regs
  have ey := (evO_ok (ρ := ρ) hy).eval s.regs
  unfold evAq at h
  split at h
  · rename_i hT
    obtain rfl := Nat.eq_of_beq_eq_true hT
    split at h
    · rename_i E hE
      split at h
      · rename_i inf hi
        split at h
        · rename_i c xs H1 hr
          split at h
          · rename_i c' ys' hs
            split at h
            · rename_i ys hy2
              split at h
              · rename_i hB
                cases h
                obtain ⟨rfl, rfl⟩ := castL_ok hy2
                simp only [Bool.and_eq_true, freshB] at hB
                obtain ⟨⟨⟨⟨⟨⟨b0, b1⟩, b2⟩, b4⟩, b5⟩, ⟨⟨b7, b8⟩, b9⟩⟩, bt⟩ := hB
                have b1' := Nat.eq_of_beq_eq_true b1
                obtain ⟨z, hz, hzsz⟩ := zszB_ok b2
                have b4' : 0 < K.sz c' := Nat.le_of_ble_eq_true b4
                have b5' := Nat.le_of_ble_eq_true b5
                have b8' := Nat.le_of_ble_eq_true b8
                have bt' := Nat.le_of_ble_eq_true bt
                have hguard : (((xs.length + ys.length : Nat)) : Int) < 1000000000000 := hg _ (List.mem_singleton.2 rfl)
                obtain ⟨A, cap, hdx, htop, vss, h2, h3, s2⟩ := rowOf_ok hr s.sat
                have s3 : Sat B w (dH K ρ (H1 ++ Z) ++ ([F] ++ (rowS A xs.length cap (K.sz c') vss.flatten :: rwsS K (pcS K) c' xs vss))) := s2.perm (by
                  have e : dH K ρ (H1 ++ Z) = dH K ρ H1 ++ dH K ρ Z := by simp [dH]
                  rw [e, tl]
                  refine List.Perm.symm ?_
                  rw [← List.append_assoc (dH K ρ H1 ++ dH K ρ Z), List.append_assoc (dH K ρ H1)]
                  exact List.perm_append_comm.trans (by rw [List.cons_append]))
                obtain ⟨A2, cap2, hdy, hcells⟩ := srcOf_ok hs b0 b4' s3
                have hby : (xs.length + ys.length) * inf.bytes ≤ 140737488355328 := by
                  have h1 : xs.length + ys.length ≤ 1000000000000 := by omega
                  have h2 : (xs.length + ys.length) * inf.bytes ≤ 1000000000000 * 140 := Nat.mul_le_mul h1 b5'
                  omega
                have hul : (ys.flatMap (encF K c')).length = ys.length * K.sz c' := by
                  rw [List.flatMap_def, flatv_len (sz := K.sz c') fun v hv => by
                    obtain ⟨x, _, rfl⟩ := List.mem_map.1 hv
                    unfold encF; rw [List.length_map, K.sz_ok]]
                  rw [List.length_map]
                have hsc : (ys.flatMap (encF K c')).all scalar = true := by
                  rw [List.all_eq_true]
                  intro q hq
                  obtain ⟨x, _, hx⟩ := List.mem_flatMap.1 hq
                  exact List.all_eq_true.1 (plain_scalar (K.pl_ok c' b0 x)) q hx
                obtain ⟨A', cap', w', hrun, c1, c2, c3⟩ := append_src (ty := ty) (W := W) (c := cap2) (sliceE_und hE) ⟨inf, hi, hz, b1', rfl⟩ hzsz b4' hcells s2 s.below s.lo hul hsc (by unfold maxLen; omega) hby
                have : (execOp a.eval ⟨d, .call ⟨.builtin .append, #[x, y], #[T, T]⟩, ty, ps, af, g⟩).run P w = .ok (.value (.slice A' (xs.length + ys.length) cap')) w' := by
                  simp only [execOp, resolve, List.map_toArray, List.map_cons, List.map_nil, ex, ey, hdx, hdy]
                  simp only [invoke, builtin]
                  simp [hrun]
                rw [this]
                have ha := agree_setS ρ n ⟨A', xs.length + ys.length, cap'⟩
                refine ⟨⟨ρ.setS n ⟨A', xs.length + ys.length, cap'⟩, n + 1, _, .sl n⟩, by simp [denV, Env.setS], ⟨ha, Nat.le_succ _, (dR_agree ha R (Nat.le_of_ble_eq_true b7)).symm, hn⟩, c1, c2, ?_⟩
                have c4 := rows_make b0 c3 (ys := ys)
                refine c4.imp fun k hk => ?_
                have g5 : star ((rowS A' (xs ++ ys).length cap' (K.sz c') (vss ++ ys.map (encF K c')).flatten :: rwsS K (pcS K) c' (xs ++ ys) (vss ++ ys.map (encF K c'))) ++ (dH K ρ H1 ++ tl K Z F ρ)) k := by
                  rw [rwsS_app h2, List.length_append, List.flatten_append, ← List.flatMap_def]
                  refine star_perm ?_ hk
                  refine (List.perm_middle (l₁ := rwsS K (pcS K) c' ys (ys.map (encF K c')))).trans (List.Perm.cons _ ?_)
                  exact (permS _ _ _).trans (by rw [← List.append_assoc]; exact List.Perm.refl _)
                obtain ⟨j1, j2, a'', e'', q1, q2⟩ := star_append.1 g5
                refine ⟨j1, j2, a'', e'', ⟨by simp [Env.setS], rwS_iff.2 ⟨vss ++ ys.map (encF K c'), ?_⟩⟩, ?_⟩
                · simpa [Env.setS] using q1
                · rw [dH_agree ha H1 bt', tl_agree b8' ha] at q2; exact q2
              · cases h
            · cases h
          · cases h
        · cases h
      · cases h
    · cases h
  · cases h
theorem rep_rows {c : Nat} {x0 : K.T c} {k : IntKind} (hv : K.vw c x0 = [.i k 0]) {L : List SProp} {B : Nat} {w : World} (s : Sat B w L) : ∀ m : Nat, Sat B w (rwsS K (pcS K) c (List.replicate m x0) (List.replicate m [Value.int k 0]) ++ L)
  | 0 => s
  | m + 1 => by
    rw [List.replicate_succ, List.replicate_succ]
    simp only [rwsS, hv, fsS, List.cons_append, List.nil_append]
    exact sat_pureI (p := pcS K (.i k 0) (.int k 0)) (rep_rows hv s m) fun h => pcS_iff.2 rfl
theorem step_mk {o : Oper} {T : TypeId} {x y : Operand} {u v : V} {gs : List Gd} {n' : Nat} {H' : KT.H K} {r : V} (ho : o.op = .makeSlice T x y) (hx : evO R x = some u) (hy : evO R y = some v) (h : evMk K P R n Z H T u v = some (gs, n', H', r)) (hg : ∀ g ∈ gs, g.P) (hn : nx n' H' r) :
    StepOk K P nt B W o R n Z H nx := fun F ρ a w s => by
  obtain ⟨d, op, ty, ps, af, g⟩ := o
  simp only at ho
  subst ho
  unfold evMk at h
  split at h
  · rename_i E hE
    split at h
    · rename_i c hc
      split at h
      · rename_i k1 aa l1 hu
        split at h
        · rename_i k2 bb l2 hv
          split at h
          · rename_i k hk
            split at h
            · rename_i inf hi
              split at h
              · rename_i k' hz
                split at h
                · rename_i x0 hx0
                  split at h
                  · rename_i hB
                    cases h
                    simp only [Bool.and_eq_true, freshB] at hB
                    obtain ⟨⟨⟨⟨b0, b1⟩, b2⟩, b3⟩, ⟨⟨b7, b8⟩, b9⟩⟩ := hB
                    obtain rfl := sameK_eq b0
                    have b1' := Nat.eq_of_beq_eq_true b1
                    have b2' := Nat.eq_of_beq_eq_true b2
                    have b3' := Nat.le_of_ble_eq_true b3
                    have b8' := Nat.le_of_ble_eq_true b8
                    obtain rfl : aa = bb := hg ⟨aa = bb, inferInstance⟩ (List.mem_cons_self ..)
                    obtain ⟨g1, g2⟩ : 0 ≤ aa ∧ aa ≤ 1099511627776 := hg ⟨0 ≤ aa ∧ aa ≤ 1099511627776, inferInstance⟩ (List.mem_cons_of_mem _ (List.mem_cons_self ..))
                    have hvw := K.bk_ok _ _ _ hx0
                    have hot := ot_make (L := dS K ρ Z H F) (W := W) (B := B) (n := nt) (d := d) (ty := ty) (ps := ps) (af := af) (g := g) (evR_int (ρ := ρ) hx hu) (evR_int (ρ := ρ) hy hv) (sliceE_und hE) ⟨inf, hi, hz, b1', rfl⟩ (by rfl) g1 g2 b3' a w s
                    revert hot
                    generalize (execOp a.eval ⟨d, .makeSlice T x y, ty, ps, af, g⟩).run P w = res
                    intro hot
                    have fin : ∀ (b : Nat) (w' : World), Cls B W (pts b 0 (List.replicate aa.toNat (Value.int k 0)) :: dS K ρ Z H F) w' → ∃ ρ', Agree n ρ ρ' ∧ denV ρ' (.sl n) = .slice (some ⟨b, 0, none⟩) aa.toNat aa.toNat ∧ Cls B W (dS K ρ' Z ((n, .row c (List.replicate aa.toNat x0)) :: H) F) w' := by
                      intro b w' hw'
                      have ha := agree_setS ρ n ⟨some ⟨b, 0, none⟩, aa.toNat, aa.toNat⟩
                      refine ⟨ρ.setS n ⟨some ⟨b, 0, none⟩, aa.toNat, aa.toNat⟩, ha, by simp [denV, Env.setS], hw'.1, hw'.2.1, ?_⟩
                      have s1 := rep_rows hvw hw'.2.2 aa.toNat
                      have s2 : Sat B w' ((pts b 0 (List.replicate aa.toNat (Value.int k 0)) :: rwsS K (pcS K) c (List.replicate aa.toNat x0) (List.replicate aa.toNat [Value.int k 0])) ++ dS K ρ Z H F) := s1.perm (List.perm_middle (l₁ := rwsS K (pcS K) c (List.replicate aa.toNat x0) (List.replicate aa.toNat [Value.int k 0])))
                      refine s2.imp fun h hk => ?_
                      obtain ⟨j1, j2, a'', e'', q1, q2⟩ := star_append.1 hk
                      refine ⟨j1, j2, a'', e'', ⟨by simp [Env.setS], rwS_iff.2 ⟨List.replicate aa.toNat [Value.int k 0], star_head (fun q hp => ?_) q1⟩⟩, ?_⟩
                      · have e1 : (List.replicate aa.toNat [Value.int k 0]).flatten = List.replicate aa.toNat (Value.int k 0) := by
                          induction aa.toNat with
                          | zero => rfl
                          | succ m ih => rw [List.replicate_succ, List.flatten_cons, ih, List.replicate_succ]; rfl
                        rw [e1]
                        simp only [Env.setS, if_true, List.length_replicate]
                        exact rowS_of_pts (by simp [b2']) (by unfold maxLen; omega) q hp
                      · rw [dS, dH_agree ha H (Nat.le_of_ble_eq_true b9), tl_agree b8' ha] at q2; exact q2
                    cases res with
                    | halt x w' => exact hot
                    | ok x w' =>
                      cases x <;> first | exact hot | skip
                      case value u' =>
                        obtain ⟨b, rfl, hw'⟩ := hot
                        obtain ⟨ρ', ha, hd, hc'⟩ := fin b w' hw'
                        exact ⟨⟨ρ', n + 1, _, .sl n⟩, hd.symm, ⟨ha, Nat.le_succ _, (dR_agree ha R (Nat.le_of_ble_eq_true b7)).symm, hn⟩, hc'⟩
                      case skip =>
                        obtain ⟨b, hb, hw'⟩ := hot
                        cases hb
                      case enter f args =>
                        refine hot.mono fun e w'' ⟨b, he, hw'⟩ => ?_
                        obtain ⟨ρ', ha, hd, hc'⟩ := fin b w'' hw'
                        exact ⟨⟨ρ', n + 1, _, .sl n⟩, by rw [he]; exact congrArg _ hd.symm, ⟨ha, Nat.le_succ _, (dR_agree ha R (Nat.le_of_ble_eq_true b7)).symm, hn⟩, hc'⟩
                  · cases h
                · cases h
              · cases h
            · cases h
          · cases h
        · cases h
      · cases h
    · cases h
  · cases h
theorem pc_scalar {f : Fl K.T K.M} {v : Value} {h : Hp} (hf : ∀ u, f ≠ .c u) (s : pcS K f v h) : scalar v = true := by
  rw [pcS_iff] at s
  cases f with
  | i k x => have e : v = .int k x := s; rw [e]; rfl
  | b x => have e : v = .bool x := s; rw [e]; rfl
  | c u => exact absurd rfl (hf u)
  | own c x => obtain ⟨q, e, _⟩ := s; rw [e]; rfl
  | row c xs => obtain ⟨A, cap, e, _⟩ := s; rw [e]; rfl
  | ro c xs => obtain ⟨A, cap, e, _⟩ := s; rw [e]; rfl
  | rr c xs => obtain ⟨A, cap, e, _⟩ := s; rw [e]; rfl
  | mach m =>
    simp only [pcW] at s
    split at s
    · rw [s]; rfl
    · obtain ⟨q, e, _⟩ := s; rw [e]; rfl
theorem fs_scalar : ∀ {l : List (Fl K.T K.M)} {vs : List Value} {L : List SProp} {h : Hp}, (∀ f ∈ l, ∀ u, f ≠ .c u) → star (fsS (pcS K) l vs ++ L) h → vs.all scalar = true ∧ star L h
  | [], [], _, _, _, s => ⟨rfl, s⟩
  | f :: l, v :: vs, L, h, hc, s => by
    obtain ⟨k1, k2, a, e, h1, h2⟩ := s
    obtain ⟨h3, h4⟩ := fs_scalar (fun f hf => hc f (List.mem_cons_of_mem _ hf)) h2
    refine ⟨by rw [List.all_cons, pc_scalar (hc f (List.mem_cons_self ..)) h1, h3]; rfl, ?_⟩
    have : star (pcS K f v :: (fsS (pcS K) l vs ++ L)) h := ⟨k1, k2, a, e, h1, h2⟩
    have := Ent.drop h this
    exact (fs_scalar (fun f hf => hc f (List.mem_cons_of_mem _ hf)) this).2
  | [], _ :: _, _, _, _, ⟨_, _, _, _, hf, _⟩ => hf.elim
  | _ :: _, [], _, _, _, ⟨_, _, _, _, hf, _⟩ => hf.elim
theorem rws_scalar {c : Nat} (hc : ∀ x : K.T c, ∀ f ∈ K.vw c x, ∀ u, f ≠ .c u) : ∀ {ys : List (K.T c)} {vss : List (List Value)} {L : List SProp} {h : Hp}, star (rwsS K (pcS K) c ys vss ++ L) h → vss.flatten.all scalar = true ∧ star L h
  | [], [], _, _, s => ⟨rfl, s⟩
  | y :: ys, vs :: vss, L, h, s => by
    have s' : star (fsS (pcS K) (K.vw c y) vs ++ (rwsS K (pcS K) c ys vss ++ L)) h := by simpa [rwsS] using s
    obtain ⟨h1, h2⟩ := fs_scalar (hc y) s'
    obtain ⟨h3, h4⟩ := rws_scalar hc h2
    exact ⟨by rw [List.flatten_cons, List.all_append, h1, h3]; rfl, h4⟩
  | [], _ :: _, _, _, ⟨_, _, _, _, hf, _⟩ => hf.elim
  | _ :: _, [], _, _, ⟨_, _, _, _, hf, _⟩ => hf.elim
theorem step_ar {o : Oper} {T T' : TypeId} {x y : Operand} {u v : V} {gs : List Gd} {n' : Nat} {H' : KT.H K} {r : V} (hnc : ∀ (c : Nat) (x : K.T c), ∀ f ∈ K.vw c x, ∀ u, f ≠ .c u) (ho : o.op = .call ⟨.builtin .append, #[x, y], #[T, T']⟩) (hx : evO R x = some u) (hy : evO R y = some v) (h : evAr K P R n Z H T T' u v = some (gs, n', H', r)) (hg : ∀ g ∈ gs, g.P) (hn : nx n' H' r) :
    StepOk K P nt B W o R n Z H nx := fun F ρ a w s => by
  obtain ⟨d, op, ty, ps, af, g⟩ := o
  simp only at ho
  subst ho
  have ex := (evO_ok (ρ := ρ) hx).eval s.regs
  have ey := (evO_ok (ρ := ρ) hy).eval s.regs
  unfold evAr at h
  split at h
  · rename_i hT
    obtain rfl := Nat.eq_of_beq_eq_true hT
    split at h
    · rename_i E hE
      split at h
      · rename_i inf hi
        split at h
        · rename_i c xs H1 hr
          split at h
          · rename_i id2
            split at h
            · rename_i c' ys' hgr
              split at h
              · rename_i ys hy2
                split at h
                · rename_i hB
                  cases h
                  obtain ⟨rfl, rfl⟩ := castL_ok hy2
                  simp only [Bool.and_eq_true, freshB] at hB
                  obtain ⟨⟨⟨⟨⟨b1, b2⟩, b4⟩, b5⟩, ⟨⟨b7, b8⟩, b9⟩⟩, bt⟩ := hB
                  have b1' := Nat.eq_of_beq_eq_true b1
                  obtain ⟨z, hz, hzsz⟩ := zszB_ok b2
                  have b4' : 0 < K.sz c' := Nat.le_of_ble_eq_true b4
                  have b5' := Nat.le_of_ble_eq_true b5
                  have b8' := Nat.le_of_ble_eq_true b8
                  have bt' := Nat.le_of_ble_eq_true bt
                  have hguard : (((xs.length + ys.length : Nat)) : Int) < 100000000000 := hg _ (List.mem_singleton.2 rfl)
                  obtain ⟨A, cap, hdx, htop, vss, h2, h3, s2⟩ := rowOf_ok hr s.sat
                  have s3 : Sat B w (dH K ρ H1 ++ (rowS A xs.length cap (K.sz c') vss.flatten :: (rwsS K (pcS K) c' xs vss ++ tl K Z F ρ))) := s2.perm (by
                    refine List.Perm.symm ?_
                    refine (List.perm_middle (l₁ := dH K ρ H1)).trans (List.Perm.cons _ ?_)
                    exact permS _ _ _)
                  have hdy := sl_fact s3 (.inl hgr)
                  obtain ⟨hn2, vs2, e1, e2, s4⟩ := row_at s3 hgr
                  obtain ⟨r1, r2, r3, r4⟩ := sat_rowS s4 (List.mem_cons_self ..)
                  have s5 : Sat B w (rowS A xs.length cap (K.sz c') vss.flatten :: (rwsS K (pcS K) c' ys vs2 ++ (rwsS K (pcS K) c' xs vss ++ (dH K ρ (del H1 id2) ++ tl K Z F ρ)))) := by
                    have s6 : Sat B w (rwsS K (pcS K) c' ys vs2 ++ (dH K ρ (del H1 id2) ++ (rowS A xs.length cap (K.sz c') vss.flatten :: (rwsS K (pcS K) c' xs vss ++ tl K Z F ρ)))) := s4.drop
                    refine s6.perm ?_
                    refine (List.Perm.append_left _ (List.perm_middle (l₁ := dH K ρ (del H1 id2)))).trans ?_
                    refine (List.perm_middle (l₁ := rwsS K (pcS K) c' ys vs2)).trans (List.Perm.cons _ ?_)
                    exact List.Perm.append_left _ (permS _ _ _)
                  have hby : (xs.length + ys.length) * inf.bytes ≤ 140737488355328 := by
                    have h1 : xs.length + ys.length ≤ 100000000000 := by omega
                    have h2 : (xs.length + ys.length) * inf.bytes ≤ 100000000000 * 200 := Nat.mul_le_mul h1 b5'
                    omega
                  have hul : vs2.flatten.length = ys.length * K.sz c' := by rw [flatv_len e2, e1]
                  have hsc : vs2.flatten.all scalar = true := by
                    have s7 := s5.drop
                    obtain ⟨hh, Hh, hs⟩ := s7
                    exact (rws_scalar (hnc c') hs).1
                  have hcells : ys.length = 0 ∨ ∃ b o, (ρ.s id2).a = some ⟨b, o, none⟩ ∧ ∀ j u, vs2.flatten[j]? = some u → w.cell? ⟨b, o + j, none⟩ = some u := by
                    rcases r4 with ⟨_, r4⟩ | ⟨b, o, r4, r5⟩
                    · left; omega
                    · exact .inr ⟨b, o, r4, r5⟩
                  obtain ⟨A', cap', w', hrun, c1, c2, c3⟩ := append_src (ty := ty) (W := W) (c := (ρ.s id2).c) (sliceE_und hE) ⟨inf, hi, hz, b1', rfl⟩ hzsz b4' hcells s5 s.below s.lo hul hsc (by unfold maxLen; omega) hby
                  have : (execOp a.eval ⟨d, .call ⟨.builtin .append, #[x, y], #[T, T]⟩, ty, ps, af, g⟩).run P w = .ok (.value (.slice A' (xs.length + ys.length) cap')) w' := by
                    simp only [execOp, resolve, List.map_toArray, List.map_cons, List.map_nil, ex, ey, hdx, hdy]
                    simp only [invoke, builtin]
                    simp [hrun]
                  rw [this]
                  have ha := agree_setS ρ n ⟨A', xs.length + ys.length, cap'⟩
                  refine ⟨⟨ρ.setS n ⟨A', xs.length + ys.length, cap'⟩, n + 1, _, .sl n⟩, by simp [denV, Env.setS], ⟨ha, Nat.le_succ _, (dR_agree ha R (Nat.le_of_ble_eq_true b7)).symm, hn⟩, c1, c2, ?_⟩
                  refine c3.imp fun k hk => ?_
                  have g5 : star ((rowS A' (xs ++ ys).length cap' (K.sz c') (vss ++ vs2).flatten :: rwsS K (pcS K) c' (xs ++ ys) (vss ++ vs2)) ++ (dH K ρ (del H1 id2) ++ tl K Z F ρ)) k := by
                    rw [rwsS_app h2, List.length_append, List.flatten_append]
                    refine star_perm (List.Perm.cons _ ?_) hk
                    exact (permS _ _ _).trans (by rw [← List.append_assoc]; exact List.Perm.refl _)
                  obtain ⟨j1, j2, a'', e'', q1, q2⟩ := star_append.1 g5
                  refine ⟨j1, j2, a'', e'', ⟨by simp [Env.setS], rwS_iff.2 ⟨vss ++ vs2, ?_⟩⟩, ?_⟩
                  · simpa [Env.setS] using q1
                  · rw [dH_agree ha _ bt', tl_agree b8' ha] at q2; exact q2
                · cases h
              · cases h
            · cases h
          · cases h
        · cases h
      · cases h
    · cases h
  · cases h
end
end
end Go.Proofs.YtpbkelpokpglaaaGreat
