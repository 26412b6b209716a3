/- Objects that are owned; a range over a function whose rounds are told what lies at their argument. No program occurs here. -/
import Derived.RangeFuncFrom
import Derived.RangeFuncLeaves
import Derived.RangeFuncBound
import Derived.Test.YtkfkiaieeiodnaaSl9
namespace Go.Proofs.Ytkfkiaieeiodnaa
open Go Go.RowKit

def objA (l : Nat) (o : Obj) : SProp := fun h => h l 0 = some (.obj o)
section
variable {B : Nat} {w : World} {L M : List SProp} {l : Nat} {o o' : Obj}
theorem Sat.obj (s : Sat B w (objA l o :: L)) : B ≤ l ∧ w.heap[l]? = some o ∧ Obj.plain o = true := by
  obtain ⟨h, H, k1, k2, a, e, hA, hL⟩ := s
  have := H l 0 (.obj o) (by rw [e]; unfold join; rw [show k1 l 0 = _ from hA])
  exact ⟨this.1, this.2.1, this.2.2.1⟩
theorem cell_of_plain {b j : Nat} {v : Value} (h : w.heap[b]? = some o) (hp : Obj.plain o = true) : w.cell? ⟨b, j, none⟩ ≠ some v := by
  unfold World.cell?; rw [h]; cases o <;> simp_all [Obj.plain]
theorem Sat.putObj (s : Sat B w (objA l o :: L)) (hp : Obj.plain o' = true) : Sat B (w.putObj l o') (objA l o' :: L) := by
  have s0 := s.obj
  obtain ⟨h, H, k1, k2, a, e, hA, hL⟩ := s
  have hA' : k1 l 0 = some (.obj o) := hA
  refine ⟨join (fun b j => if b = l ∧ j = 0 then some (.obj o') else k1 b j) k2, ?_, _, k2, ?_, rfl, ?_, hL⟩
  · intro b j x hx
    by_cases hc : b = l ∧ j = 0
    · obtain ⟨rfl, rfl⟩ := hc
      unfold join at hx
      simp only [and_self, if_true] at hx
      obtain rfl := Option.some.inj hx
      exact ⟨s0.1, World.putObj_heap_same (Array.getElem?_eq_some_iff.1 s0.2.1).1, hp, rfl⟩
    · have hx' : h b j = some x := by
        rw [e]; unfold join at hx ⊢
        simp only [if_neg hc] at hx
        exact hx
      have h2 := H b j x hx'
      refine ⟨h2.1, ?_⟩
      by_cases hb : b = l
      · subst hb
        cases x with
        | cell v => exact absurd h2.2.1 (cell_of_plain s0.2.1 s0.2.2)
        | obj y => exact absurd ⟨rfl, h2.2.2.2⟩ hc
        | look v => exact absurd h2.2 (cell_of_plain s0.2.1 s0.2.2)
      · exact h2.2.same (World.putObj_heap_other hb)
  · intro b j
    by_cases hc : b = l ∧ j = 0
    · obtain ⟨rfl, rfl⟩ := hc
      rcases a b 0 with h2 | h2
      · rw [hA'] at h2; cases h2
      · exact .inr h2
    · simp only [if_neg hc]; exact a b j
  · show (if l = l ∧ 0 = 0 then some (Item.obj o') else k1 l 0) = some (.obj o')
    simp
theorem Sat.newObj (s : Sat B w L) (hB : B ≤ w.heap.size) (hp : Obj.plain o = true) : Sat B (w.alloc o) (objA w.heap.size o :: L) := by
  obtain ⟨h, H, hL⟩ := s
  have hfar : ∀ j, h w.heap.size j = none := fun j => by
    cases e : h w.heap.size j with
    | none => rfl
    | some x => exact absurd (H _ _ _ e).2.lt (by omega)
  refine ⟨join (fun b j => if b = w.heap.size ∧ j = 0 then some (.obj o) else none) h, ?_, _, h, ?_, rfl, ?_, hL⟩
  · intro b j x hx
    unfold join at hx
    by_cases hc : b = w.heap.size ∧ j = 0
    · obtain ⟨rfl, rfl⟩ := hc
      simp only [and_self, if_true] at hx
      obtain rfl := Option.some.inj hx
      exact ⟨hB, heap_alloc_new w _, hp, rfl⟩
    · simp only [if_neg hc] at hx
      have h2 := H b j x hx
      exact ⟨h2.1, h2.2.same (Below.heap_alloc w _ _ h2.2.lt)⟩
  · intro b j
    by_cases hc : b = w.heap.size ∧ j = 0
    · obtain ⟨rfl, rfl⟩ := hc; exact .inr (hfar _)
    · left; simp [hc]
  · show (if w.heap.size = w.heap.size ∧ 0 = 0 then some (Item.obj o) else none) = some (.obj o)
    simp
end
section
variable {P : Program} {Q : Exit → Act → World → Prop} {B : Nat} {W : World} {L M : List SProp}
  {ty : TypeId} {ps : String} {af : Array Edge} {g : Option (Nat × Bool)}
theorem Cls.perm {w : World} (h : Cls B W L w) (p : L.Perm M) : Cls B W M w := ⟨h.1, h.2.1, h.2.2.perm p⟩
theorem Cls.ent {w : World} (h : Cls B W L w) (e : Ent L M) : Cls B W M w := ⟨h.1, h.2.1, e.sat h.2.2⟩
theorem Cls.putObj {w : World} {l : Nat} {o o' : Obj} (h : Cls B W (objA l o :: L) w) (hp : Obj.plain o' = true) : Cls B W (objA l o' :: L) (w.putObj l o') :=
  ⟨h.1.grown (grownBy_putObj' w l o') h.2.1 (fun k e => by cases e; exact h.2.2.obj.1), by simpa using h.2.1, h.2.2.putObj hp⟩
theorem Cls.newObj {w : World} {o : Obj} (h : Cls B W L w) (hp : Obj.plain o = true) : Cls B W (objA w.heap.size o :: L) (w.alloc o) :=
  ⟨h.1.alloc h.2.1 o, by rw [World.size_alloc]; have := h.2.1; omega, h.2.2.newObj h.2.1 hp⟩

/-- The contract of an iterator: G x lies at what it hands to a round, Sh is lent to the round. -/
def SeqC {α : Type} (P : Program) (gf : Nat) (lb : Array Value) (encs : α → Array Value) (B : Nat) (W : World) (Sh : List SProp) (G : α → List SProp) (ok : List α → α → Prop) (S Sp : List α → Prop) : Prop :=
  ∀ (l : Nat) (J Jx : List α → List SProp),
    (∀ pre x F w, ok pre x → Cls B W (G x ++ Sh ++ J pre ++ [F]) w → YieldAt Fence.wide 0 P l (encs x) w fun e w' =>
      (e = .returned (.bool true) ∧ Cls B W (G x ++ Sh ++ J (pre ++ [x]) ++ [F]) w') ∨ (e = .returned (.bool false) ∧ Cls B W (G x ++ Sh ++ Jx (pre ++ [x]) ++ [F]) w')) →
    ∀ F w, Cls B W (Sh ++ J [] ++ [F]) w → CallsIn Fence.wide 1 P gf (#[.func (.yield l) #[] #[]] ++ lb) w fun e w' => (∃ v, e = .returned v) ∧
      ((∃ xs, S xs ∧ Cls B W (Sh ++ J xs ++ [F]) w') ∨ (∃ pre, Sp pre ∧ Cls B W (Sh ++ Jx pre ++ [F]) w'))

def roundQ {α : Type} (B : Nat) (W : World) (Sh : List SProp) (G : α → List SProp) (I Ix : List α → List SProp) (pre : List α) (x : α) (F : SProp) : Exit → Act → World → Prop
  | .normal, _, w' => Cls B W (G x ++ Sh ++ I (pre ++ [x]) ++ [F]) w'
  | .ret, _, w' => Cls B W (G x ++ Sh ++ Ix (pre ++ [x]) ++ [F]) w'
  | _, _, _ => False

theorem cls_fold {L M : List SProp} {w : World} (h : Cls B W (L ++ M) w) : Cls B W (L ++ [starS M]) w := ⟨h.1, h.2.1, h.2.2.fold⟩
theorem cls_unfold {L M : List SProp} {w : World} (h : Cls B W (L ++ [starS M]) w) : Cls B W (L ++ M) w := ⟨h.1, h.2.1, h.2.2.unfold⟩

theorem wpIn_rangeC {α : Type} {go : Operand} {pl : Array Tmp} {assign body : Code} {a : Act} {w : World} {gf : Nat} {lb : Array Value} {encs : α → Array Value} {Sh : List SProp} {G : α → List SProp} {ok : List α → α → Prop} {S Sp : List α → Prop}
    (hg : a.eval go = .func (.func gf) #[] lb) (eg : ∀ args w, (callFunc gf args).run P w = .ok (.enter gf args) w) (hseq : SeqC P gf lb encs B W Sh G ok S Sp) (hps : ∀ x, (encs x).size = pl.size)
    (I Ix : List α → List SProp) {F0 : SProp} (h0 : Cls B W (Sh ++ I [] ++ [F0]) w) (Ax : α → Act → Prop)
    (hassign : ∀ (l : Nat) (x : α) (w' : World) (K : Act → World → Prop), (∀ a', Ax x a' → K a' w') → assign.wpIn (rf (some l)) 0 P (Exit.then K (fun _ _ _ => False)) { tmps := (pl.zip (encs x)).foldl (fun t (p, v) => t.setIfInBounds p v) a.tmps, defers := [] } w')
    (hbody : ∀ (l : Nat) (pre : List α) (x : α) (F : SProp) (w' : World) (a' : Act), Ax x a' → ok pre x → Cls B W (G x ++ Sh ++ I pre ++ [F]) w' → body.wpIn (rf (some l)) 0 P (roundQ B W Sh G I Ix pre x F) a' w')
    (hdone : ∀ (D : Nat) (xs : List α) (w' : World), S xs → Cls B W (objA D (.deferred (some [])) :: (Sh ++ I xs ++ [F0])) w' → Q .normal { a with defers := { target := .collected D, args := #[] } :: a.defers } w')
    (hstop : ∀ (D : Nat) (pre : List α) (w' : World), Sp pre → Cls B W (objA D (.deferred (some [])) :: (Sh ++ Ix pre ++ [F0])) w' → Q .ret { a with defers := { target := .collected D, args := #[] } :: a.defers } w') :
    (Code.rangeFunc go pl assign body).wpIn (rf none) 0 P Q a w := by
  refine (wpIn_wide (n := 0)).2 ((wpIn_wide (n := 2)).1 ?_)
  refine wpIn_rangeFunc ?_
  intro fn _
  let rec_ : LoopState → Option Code → Loop := fun st pe => { state := st, pending := pe, fn, tmps := a.tmps, params := pl, assign, body, defers := w.heap.size }
  have hA := h0.newObj (o := .deferred (some [])) rfl
  have hB := hA.newObj (o := .loop (rec_ .ready none)) rfl
  rw [World.size_alloc] at hB
  refine ⟨w.heap.size + 1, [{ target := .collected w.heap.size, args := #[] }], (w.alloc (.deferred (some []))).alloc (.loop (rec_ .ready none)), { target := .fn (.func gf) lb, args := #[.func (.yield (w.heap.size + 1)) #[] #[]] }, (w.alloc (.deferred (some []))).alloc (.loop (rec_ .ready none)), gf,
    #[.func (.yield (w.heap.size + 1)) #[] #[]] ++ lb, (w.alloc (.deferred (some []))).alloc (.loop (rec_ .ready none)), run_enterLoop_outer _ _ _ _ _, ?_, fun (_ : FuncId) _ => trivial, ?_, fun _ => by omega, ?_⟩
  · simp only [resolve, hg]
    simp [go_sem]
  · simp [invoke, go_sem, eg]
  · have p0 : (objA (w.heap.size + 1) (.loop (rec_ .ready none)) :: objA w.heap.size (.deferred (some [])) :: (Sh ++ I [] ++ [F0])).Perm (Sh ++ (I [] ++ [objA (w.heap.size + 1) (.loop (rec_ .ready none)), objA w.heap.size (.deferred (some []))]) ++ [F0]) := by
      rw [List.append_assoc Sh, List.append_assoc Sh, List.append_assoc (I [])]
      exact ((List.perm_append_comm (l₁ := [_, _]) (l₂ := Sh ++ (I [] ++ [F0]))).trans (by
        rw [List.append_assoc, List.append_assoc]
        exact List.Perm.append_left _ (List.Perm.append_left _ (List.perm_append_comm (l₁ := [F0])))))
    refine (hseq (w.heap.size + 1) (fun pre => I pre ++ [objA (w.heap.size + 1) (.loop (rec_ .ready none)), objA w.heap.size (.deferred (some []))])
      (fun pre => Ix pre ++ [objA (w.heap.size + 1) (.loop (rec_ .done (some .ret))), objA w.heap.size (.deferred (some []))]) ?_ F0 _ (hB.perm p0)).mono ?_
    · intro pre x F u hok hu
      -- the record comes up front
      have pf : ∀ (J : List SProp) (o : Obj), (objA (w.heap.size + 1) o :: (G x ++ Sh ++ J ++ [objA w.heap.size (.deferred (some [])), F])).Perm (G x ++ Sh ++ (J ++ [objA (w.heap.size + 1) o, objA w.heap.size (.deferred (some []))]) ++ [F]) := fun J o => by
        have e : G x ++ Sh ++ (J ++ [objA (w.heap.size + 1) o, objA w.heap.size (.deferred (some []))]) ++ [F] = (G x ++ Sh ++ J) ++ objA (w.heap.size + 1) o :: [objA w.heap.size (.deferred (some [])), F] := by simp
        rw [e]
        exact List.perm_middle.symm
      have hu1 := hu.perm (pf (I pre) _).symm
      have hl := hu1.2.2.obj.2.1
      have hy := run_yield (P := P) (args := encs x) hl (hps x)
      refine ⟨_, _, _, _, hy, roundIn_of_wpIn trivial (hassign _ x u _ fun a' ha' => ⟨_, run_beginRound hl rfl, ?_⟩)⟩
      have hu2 := hu1.putObj (o' := .loop { rec_ .ready none with state := .busy }) rfl
      have hu3 : Cls B W (G x ++ Sh ++ I pre ++ [starS [objA w.heap.size (.deferred (some [])), F, objA (w.heap.size + 1) (.loop { rec_ .ready none with state := .busy })]]) _ :=
        cls_fold (hu2.perm (by
          have e : G x ++ Sh ++ I pre ++ [objA w.heap.size (.deferred (some [])), F, objA (w.heap.size + 1) (.loop { rec_ .ready none with state := .busy })] = (G x ++ Sh ++ I pre ++ [objA w.heap.size (.deferred (some [])), F]) ++ [objA (w.heap.size + 1) (.loop { rec_ .ready none with state := .busy })] := by simp
          rw [e]; exact List.perm_append_comm (l₁ := [_])))
      have back : ∀ (J : List SProp) (u3 : World) (jump : Option Code), Cls B W (G x ++ Sh ++ J ++ [starS [objA w.heap.size (.deferred (some [])), F, objA (w.heap.size + 1) (.loop { rec_ .ready none with state := .busy })]]) u3 →
          (Instr.endRound (w.heap.size + 1) jump).run P u3 = .ok (.bool jump.isNone) (u3.putObj (w.heap.size + 1) (.loop (rec_ (if jump.isNone then .ready else .done) jump))) ∧
          Cls B W (G x ++ Sh ++ (J ++ [objA (w.heap.size + 1) (.loop (rec_ (if jump.isNone then .ready else .done) jump)), objA w.heap.size (.deferred (some []))]) ++ [F]) (u3.putObj (w.heap.size + 1) (.loop (rec_ (if jump.isNone then .ready else .done) jump))) := fun J u3 jump h3 => by
        have h4 := (cls_unfold h3).perm (M := objA (w.heap.size + 1) (.loop { rec_ .ready none with state := .busy }) :: (G x ++ Sh ++ J ++ [objA w.heap.size (.deferred (some [])), F])) (by
          have e : G x ++ Sh ++ J ++ [objA w.heap.size (.deferred (some [])), F, objA (w.heap.size + 1) (.loop { rec_ .ready none with state := .busy })] = (G x ++ Sh ++ J ++ [objA w.heap.size (.deferred (some [])), F]) ++ [objA (w.heap.size + 1) (.loop { rec_ .ready none with state := .busy })] := by simp
          rw [e]; exact List.perm_append_comm (l₂ := [_]))
        exact ⟨run_endRound jump h4.2.2.obj.2.1, (h4.putObj rfl).perm (pf J _)⟩
      refine wpIn_mono (hbody _ pre x _ _ a' ha' hok hu3) ?_
      rintro e a3 u3 hp
      cases e with
      | normal =>
        obtain ⟨hr, h5⟩ := back _ u3 none hp
        exact ⟨_, _, hr, .inl ⟨rfl, h5⟩⟩
      | ret =>
        obtain ⟨hr, h5⟩ := back _ u3 (some .ret) hp
        exact ⟨_, _, hr, .inr ⟨rfl, h5⟩⟩
      | exit id => exact hp.elim
      | goto t => exact hp.elim
      | panic ch => exact hp.elim
      | outgrown => exact hp.elim
    · have pb : ∀ (J : List SProp) (o : Obj), (Sh ++ (J ++ [objA (w.heap.size + 1) o, objA w.heap.size (.deferred (some []))]) ++ [F0]).Perm (objA (w.heap.size + 1) o :: objA w.heap.size (.deferred (some [])) :: (Sh ++ J ++ [F0])) := fun J o => by
        have e : Sh ++ (J ++ [objA (w.heap.size + 1) o, objA w.heap.size (.deferred (some []))]) ++ [F0] = (Sh ++ J) ++ ([objA (w.heap.size + 1) o, objA w.heap.size (.deferred (some []))] ++ [F0]) := by simp
        rw [e]
        refine (List.Perm.append_left _ List.perm_append_comm).trans ?_
        rw [← List.append_assoc]
        exact List.perm_append_comm (l₂ := [_, _])
      rintro e u ⟨⟨v, rfl⟩, (⟨xs, hS, hu⟩ | ⟨pre, hSp, hu⟩)⟩
      · have h1 := hu.perm (pb _ _)
        have h2 := h1.putObj (o' := .loop { rec_ .ready none with state := .exhausted }) rfl
        have hr := run_endLoop (P := P) h1.2.2.obj.2.1 (by simp [rec_])
        exact ⟨none, _, hr, hdone _ xs _ hS (h2.ent Ent.drop)⟩
      · have h1 := hu.perm (pb _ _)
        have h2 := h1.putObj (o' := .loop { rec_ .done (some .ret) with state := .exhausted }) rfl
        have hr := run_endLoop (P := P) h1.2.2.obj.2.1 (by simp [rec_])
        exact ⟨some .ret, _, hr, wpIn_ret (hstop _ pre _ hSp (h2.ent Ent.drop))⟩
theorem op_yield {a : Act} {w : World} {l : Nat} {d : Option Tmp} {x : Operand} {xs : Array Operand} {ts : Array TypeId} {vs : List Value} (hf : a.eval x = .func (.yield l) #[] #[]) (hxs : xs.toList.map a.eval = vs) :
    (execOp a.eval ⟨d, .call ⟨.value x, xs, ts⟩, ty, ps, af, g⟩).run P w = (Instr.yield l vs.toArray).run P w := by
  have e : xs.map a.eval = vs.toArray := by apply Array.ext'; rw [Array.toList_map, hxs]
  simp only [execOp, resolve, e, hf, Deferred.ofValue]
  rw [run_bind_ok (a := ({ target := .fn (.yield l) #[], args := #[] ++ vs.toArray } : Deferred)) (w' := w) rfl]
  simp [invoke]
theorem rt_yield {ops : Array Oper} {n : Nat} {R : RList} {R' : Bool → RList} {L1 L2 : List SProp} {rest : List Oper} {l : Nat} {d : Option Tmp} {x : Operand} {xs : List Operand} {ts : Array TypeId} {vs : List Value} (hx : EvalR R x (.func (.yield l) #[] #[])) (hxs : EvalRs R xs vs)
    (h : ∀ w, Cls B W L w → YieldAt Fence.wide 0 P l vs.toArray w fun e w' => (e = .returned (.bool true) ∧ Cls B W L1 w') ∨ (e = .returned (.bool false) ∧ Cls B W L2 w'))
    (hg : Wants ops R g true) (hp : ∀ c, Put n R d (.bool c) (R' c)) (k1 : RT none P ops Q n B W rest (R' true) L1) (k2 : RT none P ops Q n B W rest (R' false) L2) : RT none P ops Q n B W (⟨d, .call ⟨.value x, xs.toArray, ts⟩, ty, ps, af, g⟩ :: rest) R L := fun a w s => by
  unfold wpListIn
  rw [if_pos (hg.spec s.regs)]
  refine ⟨fun _ _ => trivial, ?_⟩
  obtain ⟨fn, tmps, assign, body, hy, hR⟩ := h w s.cls
  have hr := (op_yield (P := P) (w := w) (d := d) (ts := ts) (ty := ty) (ps := ps) (af := af) (g := g) (hx.eval s.regs) (by simpa using hxs.eval s.regs)).trans hy
  have hs : Oper.semAt none a.eval ⟨d, .call ⟨.value x, xs.toArray, ts⟩, ty, ps, af, g⟩ = execOp a.eval ⟨d, .call ⟨.value x, xs.toArray, ts⟩, ty, ps, af, g⟩ := no_defer (P := P) (w := w) (fun d w' e => by rw [hr] at e; cases e) (fun x w' e => by rw [hr] at e; cases e)
  show Oper.uponIn (rf none) 0 P _ a _ _ ((Oper.semAt none a.eval _).run P w)
  rw [hs, hr]
  refine ⟨fun e => (by cases e), hR.mono ?_⟩
  rintro e w' (⟨rfl, hc⟩ | ⟨rfl, hc⟩)
  · exact k1 _ _ (hc.st (hp true a s.regs))
  · exact k2 _ _ (hc.st (hp false a s.regs))
theorem seq_enter {f : FuncId} {fn : Func} {c : Code} {args : Array Value} {post : Ending → World → Prop} (hf : P.funcs[f]? = some fn) (hb : fn.body = some c) {m : Nat} (hn : fn.ntmps = m) (hle : args.size ≤ m) {R : RList} (hR : (args.toList.zipIdx.map fun p => (p.2, p.1)) = R) {k : Nat} {w : World} (hw : Cls B W L w)
    (h : CT none P (bodyPost P fn post) m B W c R L) : CallsIn Fence.wide k P f args w post :=
  callsIn_wide.2 (calls_of_wp hf hb (wpIn_wide (n := 0).1 (h _ w (hw.st ⟨by simp [hn]; omega, rfl, fun p hp => by
    subst hR
    obtain ⟨q, hq, rfl⟩ := List.mem_map.1 hp
    obtain ⟨i, hi⟩ := List.mem_iff_getElem?.1 hq
    simp only [List.getElem?_zipIdx, Option.map_eq_some_iff] at hi
    obtain ⟨u, hu, rfl⟩ := hi
    have hi' : i < args.size := by
      have := (List.getElem?_eq_some_iff.1 hu).1; simpa using this
    simp only [Nat.zero_add]
    rw [Array.getElem?_append_left hi']
    simpa using hu⟩))))
theorem row_tail {A : Option Addr} {m c k m' : Nat} {vs us : List Value} (hk : k ≤ m) (hm : m' = m - k) (hu : us = vs.drop k) : Ent (rowS A m c 1 vs :: L) (rowS (if c = k then A else A.map fun a => a.add (k * 1)) m' (c - k) 1 us :: L) := by
  subst hm hu
  refine Ent.cons (fun h => ?_) Ent.refl
  rintro ⟨h1, h2, h3, h4⟩
  refine ⟨by rw [List.length_drop]; omega, by omega, by omega, ?_⟩
  by_cases hc : c = k
  · subst hc
    rcases h4 with ⟨e1, e2⟩ | ⟨b, o, sp, e1, e2, p⟩
    · exact .inl ⟨by rw [if_pos rfl, e1], by omega⟩
    · refine .inr ⟨b, o, [], by rw [if_pos rfl, e1], by simp, ?_⟩
      rw [List.drop_eq_nil_of_le (by omega)]
      intro i v hi; simp at hi
  · rcases h4 with ⟨e1, e2⟩ | ⟨b, o, sp, e1, e2, p⟩
    · omega
    · refine .inr ⟨b, o + k * 1, sp, by rw [if_neg hc, e1]; simp [Addr.add], by omega, ?_⟩
      intro i v hi
      have := p (k + i) v (by
        rw [← hi, ← List.getElem?_drop, List.drop_append_of_le_length (by omega)])
      rwa [show o + (k + i) = o + k * 1 + i by omega] at this
/-- What is folded lies at the end, ahead of the frame. -/
theorem cls_open {L1 L2 : List SProp} {F : SProp} {w : World} (h : Cls B W (L1 ++ [starS L2, F]) w) : Cls B W (L1 ++ L2 ++ [F]) w := by
  have h1 : Cls B W ((L1 ++ [F]) ++ [starS L2]) w := h.perm (by
    rw [List.append_assoc]; exact List.Perm.append_left _ (List.Perm.swap ..))
  exact (cls_unfold h1).perm (by
    rw [List.append_assoc, List.append_assoc]; exact List.Perm.append_left _ List.perm_append_comm)
theorem cls_shut {L1 L2 : List SProp} {F : SProp} {w : World} (h : Cls B W (L1 ++ L2 ++ [F]) w) : Cls B W (L1 ++ [starS L2, F]) w := by
  have h1 : Cls B W ((L1 ++ [F]) ++ L2) w := h.perm (by
    rw [List.append_assoc, List.append_assoc]; exact List.Perm.append_left _ List.perm_append_comm)
  exact (cls_fold h1).perm (by
    rw [List.append_assoc]; exact List.Perm.append_left _ (List.Perm.swap ..))
/-- A way out to an ending that is said of the world. -/
theorem et_out {fn : Func} {rs : List ResultVar} {vs : List Value} {n : Nat} {R : RList} {post : Ending → World → Prop} (hfn : fn.results.toList = rs) (h : ResR P R L rs vs) (hp : ∀ w, Cls B W L w → post (.returned (tupled vs)) w) : ET (bodyPost P fn post) n B W .ret R L := fun _ w s =>
  bodyPost_ret (h.run s hfn) s.regs.defers (hp w s.cls)
theorem et_out_end {fn : Func} {rs : List ResultVar} {vs : List Value} {n : Nat} {R : RList} {post : Ending → World → Prop} (hfn : fn.results.toList = rs) (h : ResR P R L rs vs) (hp : ∀ w, Cls B W L w → post (.returned (tupled vs)) w) : ET (bodyPost P fn post) n B W .normal R L := fun _ w s =>
  ⟨s.regs.defers, _, h.run s hfn, hp w s.cls⟩

/-! ### Behind a range over a function: activations that hold a mark -/
section
variable {o : Oper} {ops : Array Oper} {n : Nat} {R R' : RList} {v : Value} {rest : List Oper}
def CTd (P : Program) (Q : Exit → Act → World → Prop) (n B : Nat) (W : World) (ds : List Deferred) (c : Code) (R : RList) (L : List SProp) : Prop := ∀ a w, Sta n B W R L a w → c.wpIn (rf none) 0 P Q { a with defers := ds } w
def RTd (P : Program) (ops : Array Oper) (Q : Exit → Act → World → Prop) (n B : Nat) (W : World) (ds : List Deferred) (l : List Oper) (R : RList) (L : List SProp) : Prop := ∀ a w, Sta n B W R L a w → wpListIn (rf none) 0 P ops Q l { a with defers := ds } w
theorem ctd_seq {ds : List Deferred} {x y : Code} (h : CTd P (Exit.then (y.wpIn (rf none) 0 P Q) Q) n B W ds x R L) : CTd P Q n B W ds (.seq x y) R L := fun a w s => wpIn_seq (h a w s)
theorem ctd_region {ds : List Deferred} {id : Nat} {l : List Oper} (h : RTd P l.toArray Q n B W ds l R L) : CTd P Q n B W ds (.region id l.toArray false) R L := fun a w s => wpIn_region_lit (h a w s)
theorem rtd_t {ds : List Deferred} {X : Type} {v : X → Value} {L' : X → List SProp} {R' : X → RList} (h : OT P n B W o R L v L') (hg : Wants ops R o.guard true) (hp : ∀ x, Put n R o.dst (v x) (R' x))
    (K : ∀ x, RTd P ops Q n B W ds rest (R' x) (L' x)) : RTd P ops Q n B W ds (o :: rest) R L := fun a w s => by
  unfold wpListIn
  rw [if_pos (hg.spec s.regs)]
  refine wpIn_turn (a := { a with defers := ds }) (h a w s) fun x w' hw' => ?_
  have := K x _ _ (hw'.st (hp x a s.regs))
  have e : ({ a with defers := ds } : Act).put o.dst (v x) = { (a.put o.dst (v x)) with defers := ds } := by cases o.dst <;> rfl
  rw [e]; exact this
theorem rtd_then {ds : List Deferred} {y : Code} (h : CTd P Q n B W ds y R L) : RTd P ops (Exit.then (y.wpIn (rf none) 0 P Q) Q) n B W ds [] R L := fun a w s => h a w s
theorem ctd_ret {fn : Func} {rs : List ResultVar} {vs : List Value} {D : Nat} {post : Ending → World → Prop} (hfn : fn.results.toList = rs) (h : ResR P R L rs vs) (hp : ∀ w, Cls B W L w → post (.returned (tupled vs)) w) :
    CTd P (bodyPostM (rf none) 0 P fn post) n B W [{ target := .collected D, args := #[] }] .ret R (objA D (.deferred (some [])) :: L) := fun a w s => by
  refine wpIn_ret ?_
  have hD := s.sat.obj
  have hc : Cls B W L (w.putObj D (.deferred none)) := (s.cls.putObj (o' := .deferred none) rfl).ent Ent.drop
  refine ⟨by simp, .inl ⟨_, _, rfl, run_takeDeferred hD.2.1, ?_⟩⟩
  exact ⟨_, h.run (hc.st s.regs) hfn, hp _ hc⟩
theorem stop_ret {fn : Func} {rs : List ResultVar} {vs : List Value} {D : Nat} {post : Ending → World → Prop} (hfn : fn.results.toList = rs) (h : ResR P R L rs vs) (hp : ∀ w, Cls B W L w → post (.returned (tupled vs)) w) {a : Act} {w : World} (r : Regs n a R) (hw : Cls B W (objA D (.deferred (some [])) :: L) w) :
    bodyPostM (rf none) 0 P fn post .ret { a with defers := [{ target := .collected D, args := #[] }] } w := by
  have hD := hw.2.2.obj
  have hc : Cls B W L (w.putObj D (.deferred none)) := (hw.putObj (o' := .deferred none) rfl).ent Ent.drop
  refine ⟨by simp, .inl ⟨_, _, rfl, run_takeDeferred hD.2.1, ?_⟩⟩
  exact ⟨_, h.run (hc.st r) hfn, hp _ hc⟩
theorem marks_enter {f : FuncId} {fn : Func} {c : Code} {args : Array Value} {post : Ending → World → Prop} (hf : P.funcs[f]? = some fn) (hb : fn.body = some c) {m : Nat} (hn : fn.ntmps = m) (hle : args.size ≤ m) {R : RList} (hR : (args.toList.zipIdx.map fun p => (p.2, p.1)) = R) {w : World} (hw : Cls B W L w)
    (h : CT none P (bodyPostM (rf none) 0 P fn post) m B W c R L) : Calls P f args w post :=
  (callsIn_wide (n := 0)).1 (callsIn_of_wp_marks hf hb trivial (h _ w (hw.st ⟨by simp [hn]; omega, rfl, fun p hp => by
    subst hR
    obtain ⟨q, hq, rfl⟩ := List.mem_map.1 hp
    obtain ⟨i, hi⟩ := List.mem_iff_getElem?.1 hq
    simp only [List.getElem?_zipIdx, Option.map_eq_some_iff] at hi
    obtain ⟨u, hu, rfl⟩ := hi
    have hi' : i < args.size := by
      have := (List.getElem?_eq_some_iff.1 hu).1; simpa using this
    simp only [Nat.zero_add]
    rw [Array.getElem?_append_left hi']
    simpa using hu⟩)) rfl)
theorem assign_one {id l : Nat} {K : Act → World → Prop} (h : OP P n o R v) (hg : o.guard = none) (hp : Put n R o.dst v R') {a : Act} {w : World} (ha : Regs n a R) (hK : ∀ a', Regs n a' R' → K a' w) :
    (Code.region id [o].toArray false).wpIn (rf (some l)) 0 P (Exit.then K fun _ _ _ => False) a w := by
  refine wpIn_region_lit ?_
  unfold wpListIn
  rw [if_pos (by simp [Region.wanted, hg])]
  refine wpIn_turn (X := Unit) (v := fun _ => v) (C := fun _ w' => w' = w) ?_ fun _ w' hw' => ?_
  · rw [h a w ha]; exact ⟨(), rfl, rfl⟩
  · subst hw'; exact hK _ (hp a ha)
end
end
end Go.Proofs.Ytkfkiaieeiodnaa
