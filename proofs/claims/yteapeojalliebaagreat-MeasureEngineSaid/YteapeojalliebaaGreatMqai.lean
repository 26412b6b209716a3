/- Walks: slices.Clone at the slices of a configuration. slices.Clone at the slices of a configuration,in the evaluator's words. Walks: the checks of a configuration (config and its reference),function by function. Walks: the checks of a configuration's programs and submissions (config). The check of a configuration,in the evaluator's words. What it means that an answer is there; numbers; loops. Walks: park.Asleep. park.Asleep in the evaluator's form. bits.TrailingZeros64 over any table. Walks: slices.Clone at the rows of an environment. slices.Clone at the rows of an environment,in the evaluator's words. -/
import Derived.Test.YteapeojalliebaaGreatMqah
import Derived.Lib.SliceRun
import Derived.WalkKit
import Derived.Test.YteapeojalliebaaGreatRows
import Derived.Test.YteapeojalliebaaGreatMqaa
set_option linter.all false
namespace Go.Proofs.YteapeojalliebaaGreat
section
open Go.RowKit Go.Maps
def axd {α : Type} (enc : α → List Value) (sz : Nat) (el : TypeId) (w : World) (xs : List α) (e : Ending) (w' : World) : Prop :=
 (∃ A' c',e = .returned (.slice A' xs.length c') ∧ w'.ownsRow w.heap.size el sz (.slice A' xs.length c') xs.length (xs.flatMap enc)) ∧ Below w.heap.size w w'
theorem ajq {α : Type} {enc : α → List Value} {sz : Nat} (henc : ∀ x,(enc x).length = sz) : ∀ xs : List α,(xs.flatMap enc).length = xs.length * sz
 | [] =>by simp
 | x :: xs =>by rw [List.flatMap_cons,List.length_append,ajq henc xs,henc,List.length_cons,Nat.succ_mul,Nat.add_comm]
theorem auJ {α : Type} {enc : α → List Value} {sz : Nat} (henc : ∀ x,(enc x).length = sz) (hsz : 0 < sz) {w : World} {B : Nat} {a : Addr} {xs : List α} (hx : Sl enc sz w B (some a) xs) (ob : Obj) :
  ∀ j u,(xs.flatMap enc)[j]? = some u → (w.alloc ob).cell? (a.add j) = some u := by
 intro j u hj
 have hjl : j < (xs.flatMap enc).length := (List.getElem?_eq_some_iff.1 hj).1
 have hne : xs ≠ [] := by intro e; subst e; simp at hjl
 obtain ⟨b,o,e,hb,hc⟩ := hx.2 hne
 injection e with e
 subst e
 have hA : (⟨b,o,none⟩ : Addr).add j = ⟨b,o + j,none⟩ := by unfold Addr.add; split <;> simp_all
 rw [hA]
 refine Lib.cell?_alloc_some _ ?_
 rw [ajq henc] at hjl
 have hi : j / sz < xs.length := (Nat.div_lt_iff_lt_mul hsz).2 hjl
 have hm : j % sz < (enc xs[j / sz]).length := by rw [henc]; exact Nat.mod_lt _ hsz
 have hg := at4 (enc := enc) (sz := sz) henc xs (j / sz) xs[j / sz] (List.getElem?_eq_getElem hi) (j % sz) _ (List.getElem?_eq_getElem hm)
 have hjj : j / sz * sz + j % sz = j := by rw [Nat.mul_comm]; exact Nat.div_add_mod _ _
 rw [hjj,hj] at hg
 injection hg with hg
 have hc' := hc (j / sz) _ (List.getElem?_eq_getElem hi) (j % sz) _ (List.getElem?_eq_getElem hm)
 rw [hg]
 rw [Nat.add_assoc,hjj] at hc'
 exact hc'
set_option maxHeartbeats 2000000 in
theorem aug (A : Option Addr) (cap : Nat) (xs : List Ins) (w : World) (hx : Sl Ins.enc 3 w w.heap.size A xs) (hn : xs.length ≤ 1000000) :
  Calls Tryz.prog 95 #[.slice A xs.length cap] w (axd Ins.enc 3 121 w xs) := by
 cases A with
 | none =>
  have hnil : xs = [] := by
   rcases xs with _ | ⟨x,xs⟩
   ·rfl
   ·obtain ⟨b,o,e,_⟩ := hx.2 (by simp)
    cases e
  subst hnil
  have q : ∀ (w : World) (a : Option Addr) (n c n' c' : Nat),(binOp .eql 119 (.slice a n c) (.slice none n' c')).run Tryz.prog w = .ok (.bool a.isNone) w := fun w a n c n' c' =>Lib.run_eql_slice_nil w _ _ a n c n' c' Tryz.underlying119
  go_enter Tryz.func95,Tryz.ntmps95
  go_wp2
  go_ret
  exact ⟨⟨none,0,rfl,World.ownsRow_nil _ _ _ _⟩,Below.refl _ _⟩
 | some a =>
  obtain ⟨i0,hi,hz0,hz1,hz2⟩ := info_parts aE0
  have q : ∀ (w : World) (a : Option Addr) (n c n' c' : Nat),(binOp .eql 119 (.slice a n c) (.slice none n' c')).run Tryz.prog w = .ok (.bool a.isNone) w := fun w a n c n' c' =>Lib.run_eql_slice_nil w _ _ a n c n' c' Tryz.underlying119
  have hcell := Lib.hid (auJ (sz := 3) (w := w) (B := w.heap.size) (fun _ =>rfl) (by decide) hx (Obj.cells #[] 121))
  clear hx
  go_enter Tryz.func95,Tryz.ntmps95
  go_wp2_with (at_builtin; refine wpList_append_own_at _ rfl _ _ 119 rfl w.heap.size 121 i0 (.agg #[.int .i64 0,.int .i64 0,.int .i64 0]) 3 24 Tryz.underlying119 hi hz0 hz1 hz2 rfl (by decide) _ _ _ rfl (World.ownsRow_made w #[] 0 (Nat.le_refl _) (Nat.zero_le _) rfl) a xs.length cap (xs.flatMap Ins.enc) rfl ?qc0 ?qc1 ?qc2 ?qc3 ?qc4 ?qc5 ?_)
  case qc0 =>exact ajq (enc := Ins.enc) (sz := 3) (fun _ =>rfl) xs
  case qc1 =>exact hcell.out
  case qc2 =>intro u hu; rw [List.mem_flatMap] at hu; obtain ⟨x,_,hu⟩ := hu; simp [Ins.enc] at hu; rcases hu with rfl | rfl | rfl <;> rfl
  case qc3 =>unfold maxLen; omega
  case qc4 =>omega
  case qc5 =>simp
  intro v' w1 hown hgrow _ _
  obtain ⟨A',c',hv⟩ := aoX hown
  subst hv
  clear hcell
  go_wp2
  go_ret
  exact ⟨⟨A',c',by simp,by simpa using hown⟩,((Below.refl _ w).alloc (Nat.le_refl _) _).grown hgrow (by simp) (by intro k hk; simp [Value.ownBlock] at hk; omega)⟩
set_option maxHeartbeats 2000000 in
theorem asB (A : Option Addr) (cap : Nat) (xs : List (Option Addr × Nat × Nat)) (w : World) (hx : Sl anZ 1 w w.heap.size A xs) (hn : xs.length ≤ 1000000) :
  Calls Tryz.prog 94 #[.slice A xs.length cap] w (axd anZ 1 119 w xs) := by
 cases A with
 | none =>
  have hnil : xs = [] := by
   rcases xs with _ | ⟨x,xs⟩
   ·rfl
   ·obtain ⟨b,o,e,_⟩ := hx.2 (by simp)
    cases e
  subst hnil
  have q : ∀ (w : World) (a : Option Addr) (n c n' c' : Nat),(binOp .eql 25 (.slice a n c) (.slice none n' c')).run Tryz.prog w = .ok (.bool a.isNone) w := fun w a n c n' c' =>Lib.run_eql_slice_nil w _ _ a n c n' c' Tryz.underlying25
  go_enter Tryz.func94,Tryz.ntmps94
  go_wp2
  go_ret
  exact ⟨⟨none,0,rfl,World.ownsRow_nil _ _ _ _⟩,Below.refl _ _⟩
 | some a =>
  obtain ⟨i0,hi,hz0,hz1,hz2⟩ := info_parts aD7
  have q : ∀ (w : World) (a : Option Addr) (n c n' c' : Nat),(binOp .eql 25 (.slice a n c) (.slice none n' c')).run Tryz.prog w = .ok (.bool a.isNone) w := fun w a n c n' c' =>Lib.run_eql_slice_nil w _ _ a n c n' c' Tryz.underlying25
  have hcell := Lib.hid (auJ (sz := 1) (w := w) (B := w.heap.size) (fun _ =>rfl) (by decide) hx (Obj.cells #[] 119))
  clear hx
  go_enter Tryz.func94,Tryz.ntmps94
  go_wp2_with (at_builtin; refine wpList_append_own_at _ rfl _ _ 25 rfl w.heap.size 119 i0 (.slice none 0 0) 1 24 Tryz.underlying25 hi hz0 hz1 hz2 rfl (by decide) _ _ _ rfl (World.ownsRow_made w #[] 0 (Nat.le_refl _) (Nat.zero_le _) rfl) a xs.length cap (xs.flatMap anZ) rfl ?qc0 ?qc1 ?qc2 ?qc3 ?qc4 ?qc5 ?_)
  case qc0 =>exact ajq (enc := anZ) (sz := 1) (fun _ =>rfl) xs
  case qc1 =>exact hcell.out
  case qc2 =>intro u hu; rw [List.mem_flatMap] at hu; obtain ⟨x,_,hu⟩ := hu; simp [anZ] at hu; rcases hu with rfl; rfl
  case qc3 =>unfold maxLen; omega
  case qc4 =>omega
  case qc5 =>simp
  intro v' w1 hown hgrow _ _
  obtain ⟨A',c',hv⟩ := aoX hown
  subst hv
  clear hcell
  go_wp2
  go_ret
  exact ⟨⟨A',c',by simp,by simpa using hown⟩,((Below.refl _ w).alloc (Nat.le_refl _) _).grown hgrow (by simp) (by intro k hk; simp [Value.ownBlock] at hk; omega)⟩
set_option maxHeartbeats 2000000 in
theorem asz (A : Option Addr) (cap : Nat) (xs : List Sub) (w : World) (hx : Sl Sub.enc 3 w w.heap.size A xs) (hn : xs.length ≤ 1000000) :
  Calls Tryz.prog 96 #[.slice A xs.length cap] w (axd Sub.enc 3 123 w xs) := by
 cases A with
 | none =>
  have hnil : xs = [] := by
   rcases xs with _ | ⟨x,xs⟩
   ·rfl
   ·obtain ⟨b,o,e,_⟩ := hx.2 (by simp)
    cases e
  subst hnil
  have q : ∀ (w : World) (a : Option Addr) (n c n' c' : Nat),(binOp .eql 26 (.slice a n c) (.slice none n' c')).run Tryz.prog w = .ok (.bool a.isNone) w := fun w a n c n' c' =>Lib.run_eql_slice_nil w _ _ a n c n' c' Tryz.underlying26
  go_enter Tryz.func96,Tryz.ntmps96
  go_wp2
  go_ret
  exact ⟨⟨none,0,rfl,World.ownsRow_nil _ _ _ _⟩,Below.refl _ _⟩
 | some a =>
  obtain ⟨i0,hi,hz0,hz1,hz2⟩ := info_parts aDu
  have q : ∀ (w : World) (a : Option Addr) (n c n' c' : Nat),(binOp .eql 26 (.slice a n c) (.slice none n' c')).run Tryz.prog w = .ok (.bool a.isNone) w := fun w a n c n' c' =>Lib.run_eql_slice_nil w _ _ a n c n' c' Tryz.underlying26
  have hcell := Lib.hid (auJ (sz := 3) (w := w) (B := w.heap.size) (fun _ =>rfl) (by decide) hx (Obj.cells #[] 123))
  clear hx
  go_enter Tryz.func96,Tryz.ntmps96
  go_wp2_with (at_builtin; refine wpList_append_own_at _ rfl _ _ 26 rfl w.heap.size 123 i0 (.agg #[.int .i64 0,.int .i64 0,.int .i64 0]) 3 24 Tryz.underlying26 hi hz0 hz1 hz2 rfl (by decide) _ _ _ rfl (World.ownsRow_made w #[] 0 (Nat.le_refl _) (Nat.zero_le _) rfl) a xs.length cap (xs.flatMap Sub.enc) rfl ?qc0 ?qc1 ?qc2 ?qc3 ?qc4 ?qc5 ?_)
  case qc0 =>exact ajq (enc := Sub.enc) (sz := 3) (fun _ =>rfl) xs
  case qc1 =>exact hcell.out
  case qc2 =>intro u hu; rw [List.mem_flatMap] at hu; obtain ⟨x,_,hu⟩ := hu; simp [Sub.enc] at hu; rcases hu with rfl | rfl | rfl <;> rfl
  case qc3 =>unfold maxLen; omega
  case qc4 =>omega
  case qc5 =>simp
  intro v' w1 hown hgrow _ _
  obtain ⟨A',c',hv⟩ := aoX hown
  subst hv
  clear hcell
  go_wp2
  go_ret
  exact ⟨⟨A',c',by simp,by simpa using hown⟩,((Below.refl _ w).alloc (Nat.le_refl _) _).grown hgrow (by simp) (by intro k hk; simp [Value.ownBlock] at hk; omega)⟩
end
section
open Go Go.RowKit
variable [Tb]
noncomputable def aj4 (l : List Ins) : Option ((List Ins × Unit) × Unit) := if l.length ≤ 1000000 then some ((l,()),()) else none
noncomputable abbrev aqY : Con SR1 := ⟨95,[.sh (.ro 3)],[.sh (.row 3)],fun x =>aj4 x.1⟩
noncomputable def ahR (l : List Sub) : Option ((List Sub × Unit) × Unit) := if l.length ≤ 1000000 then some ((l,()),()) else none
noncomputable abbrev apY : Con SR1 := ⟨96,[.sh (.ro 4)],[.sh (.row 4)],fun x =>ahR x.1⟩
theorem awV {f : FuncId} (hf : Nat.blt f agT = true) {c sz : Nat} {el : TypeId} (hp : ∀ x,axs (SR1.kt.vw c x) = true) (hsz : SR1.kt.sz c = sz) {spec : List (SR1.T c) → Option ((List (SR1.T c) × Unit) × Unit)} (hspec : ∀ l o,spec l = some o → o = ((l,()),()) ∧ l.length ≤ 1000000)
  (h : ∀ (A : Option Addr) (cap : Nat) (xs : List (SR1.T c)) (w : World),Sl (afa SR1.kt c) sz w w.heap.size A xs → xs.length ≤ 1000000 → Calls Tryz.prog f #[.slice A xs.length cap] w (axd (afa SR1.kt c) sz el w xs)) :
  CO Tryz.prog ⟨f,[.sh (.ro c)],[.sh (.row c)],fun x =>spec x.1⟩ := fun x out hx B W hg vs F w hw =>by
 obtain ⟨hb,hB,hs⟩ := hw
 obtain ⟨ho,hl⟩ := hspec x.1 out hx
 subst ho
 show af6 Tryz.prog f _ w _
 rw [ad7 hf]
 rcases vs with _ | ⟨v,_ | ⟨v2,vs⟩⟩
 ·exact aaQ hs
 ·replace hs : Sat B w [pcS SR1.kt (.ro c x.1) v,F] := hs
  obtain ⟨A,cap,rfl,hsl⟩ := aCI hs
  have s1 := hs.drop
  rw [hsz] at hsl
  refine (h A cap x.1 w hsl hl).mono fun e w' ⟨⟨A',c',he,hown⟩,hb'⟩ =>⟨[.slice A' (List.length x.1) c'],he,hb.trans (hb'.mono hB),Nat.le_trans hB hb'.size,?_⟩
  have s2 := aoU s1 hb' hB hown
  rw [← hsz] at s2
  exact ark hp s2
 ·replace hs : Sat B w (pcS SR1.kt (.ro c x.1) v :: ([fun _ =>False] ++ [F])) := hs
  exact aaQ hs.drop
theorem avt : CO Tryz.prog aqY := awV rfl (c := 3) (sz := 3) (fun _ =>rfl) rfl (spec := aj4) (fun l o h =>by
 unfold aj4 at h
 split at h
 ·rename_i hl; cases h; exact ⟨rfl,hl⟩
 ·cases h) fun A cap xs w hx hn =>aug A cap xs w hx hn
theorem aue : CO Tryz.prog apY := awV rfl (c := 4) (sz := 3) (fun _ =>rfl) rfl (spec := ahR) (fun l o h =>by
 unfold ahR at h
 split at h
 ·rename_i hl; cases h; exact ⟨rfl,hl⟩
 ·cases h) fun A cap xs w hx hn =>asz A cap xs w hx hn
noncomputable def ahS (l : List (List Ins)) : Option ((List (List Ins) × Unit) × Unit) := if l.length ≤ 1000000 then some ((l,()),()) else none
noncomputable abbrev ail : Con SR1 := ⟨94,[.sh (.rr 3)],[.sh (.row 18)],fun x =>ahS x.1⟩
def aAD (xss : List (List Ins)) (ps : List (Option Addr × Nat)) : List (Option Addr × Nat × Nat) := List.zipWith (fun xs a =>(a.1,xs.length,a.2)) xss ps
theorem atU {Φ : World → Prop} {L : List aad} : ∀ (xss : List (List Ins)) (ps : List (Option Addr × Nat)),xss.length = ps.length → (∀ u,Φ u → ∀ (i : Nat) xs a,xss[i]? = some xs → ps[i]? = some a → Sl (afa SR1.kt 3) 3 u u.heap.size a.1 xs ∧ xs.length ≤ a.2) →
  Ent (ae8 Φ :: L) (act SR1.kt (pcS SR1.kt) 18 xss ((aAD xss ps).map anZ) ++ ae8 Φ :: L)
 | [],[],_,_ =>Ent.refl
 | [],_ :: _,h,_ =>by cases h
 | _ :: _,[],h,_ =>by cases h
 | xs :: xss,a :: ps,hl,hΦ =>by
  have ih := atU (Φ := Φ) (L := L) xss ps (by simpa using hl) fun u hu i ys b h1 h2 =>hΦ u hu (i + 1) ys b h1 h2
  refine alG.trans (fun h hs =>?_)
  have h1 := abq (A := ae8 Φ) ih hs
  refine aaP (A' := pcS SR1.kt (.ro 3 xs) (.slice a.1 xs.length a.2)) (fun k hk =>?_) h1
  refine aaH.2 (show pcW SR1.kt (obS SR1.kt) (rwS SR1.kt) (.ro 3 xs) (.slice a.1 xs.length a.2) k from ⟨a.1,a.2,rfl,?_⟩)
  exact ad2 (fun u hu =>hΦ u hu 0 xs a rfl rfl) _ hk
theorem aBd {B : Nat} {w : World} {A R F : aad} {N : List aad} (s : Sat B w (N ++ A :: [R,F])) : Sat B w ((R :: N) ++ [A,F]) := s.perm (aar fun f g h1 h2 h3 =>by simp only [List.cons_append,h1,h2,h3]; omega)
theorem asA (xss : List (List Ins)) (hl : xss.length ≤ 1000000) (B : Nat) (W : World) (v : Value) (F : aad) (w : World) (hw : Cls B W [pcS SR1.kt (.rr 3 xss) v,F] w) :
  Calls Tryz.prog ail.f #[v] w fun e w' =>∃ u,e = .returned u ∧ Cls B W [pcS SR1.kt (.row 18 xss) u,F] w' := by
 obtain ⟨hb,hB,hs⟩ := hw
 have s1 : Sat B w ((fun h =>∃ A cap,v = .slice A xss.length cap ∧ rrS (afa SR1.kt 3) (SR1.kt.sz 3) A cap xss h) :: [F]) := abg (aln (S := SR1) (f := .rr 3 xss) (fun _ h =>h) fun _ _ h =>h) hs
 obtain ⟨h,H,k1,k2,a,e,⟨A,cap,rfl,ps0,h1⟩,h2⟩ := s1
 have s2 : Sat B w (ae8 _ :: [F]) := ⟨h,H,k1,k2,a,e,h1,h2⟩
 have h3 := alF s2 List.mem_cons_self
 have hps : xss.length ≤ ps0.length := by
  rcases Nat.eq_zero_or_pos xss.length with h0 | h0
  ·omega
  ·obtain ⟨a,ha,_⟩ := h3.2 (xss.length - 1) _ (List.getElem?_eq_getElem (Nat.sub_lt h0 Nat.one_pos))
   have := (List.getElem?_eq_some_iff.1 ha).1
   omega
 obtain ⟨ps,hpe⟩ : ∃ ps,ps = ps0.take xss.length := ⟨_,rfl⟩
 have hpl : xss.length = ps.length := by rw [hpe,List.length_take]; omega
 have hpg : ∀ (i : Nat) b,ps[i]? = some b → ps0[i]? = some b := fun i b hb =>by
  rw [hpe,List.getElem?_take] at hb
  split at hb
  ·exact hb
  ·cases hb
 have hrl : (aAD xss ps).length = xss.length := by unfold aAD; rw [List.length_zipWith]; omega
 have hsl : Sl anZ 1 w w.heap.size A (aAD xss ps) := by
  refine ⟨by omega,fun hne =>?_⟩
  have hpos : 0 < xss.length := by rw [← hrl]; exact List.length_pos_iff.2 hne
  obtain ⟨a0,_,_,b,o,hA,hlt,_⟩ := h3.2 0 _ (List.getElem?_eq_getElem hpos)
  refine ⟨b,o,hA,hlt,fun i x hi j u hu =>?_⟩
  unfold aAD at hi
  rw [List.getElem?_zipWith] at hi
  cases hx : xss[i]? with
  | none =>rw [hx] at hi; simp at hi
  | some xs =>
   cases hy : ps[i]? with
   | none =>rw [hx,hy] at hi; simp at hi
   | some a =>
    rw [hx,hy] at hi
    obtain rfl := Option.some.inj hi
    obtain ⟨a',ha',_,b',o',hA',_,hc⟩ := h3.2 i xs hx
    rw [hpg i a hy] at ha'
    obtain rfl := Option.some.inj ha'
    rw [hA] at hA'
    cases hA'
    cases j with
    | zero =>
     obtain rfl := Option.some.inj hu
     rw [Nat.mul_one,Nat.add_zero]; exact hc
    | succ j =>simp [anZ] at hu
 have hcl := asB A cap (aAD xss ps) w hsl (by omega)
 rw [hrl] at hcl
 refine hcl.mono fun e w' ⟨⟨A',c',he,hown⟩,hb'⟩ =>⟨.slice A' xss.length c',by rw [he,hrl],hb.trans (hb'.mono hB),Nat.le_trans hB hb'.size,?_⟩
 rw [hrl] at hown
 have s3 := aoU s2 hb' hB hown
 have s4 : Sat B w' (ae8 _ :: [afb A' xss.length c' 1 ((aAD xss ps).flatMap anZ),F]) := s3.perm (List.Perm.swap ..)
 have s5 := s4.imp (atU xss ps hpl fun u hu i xs a hx hy =>by
  obtain ⟨a',ha',hq,_⟩ := hu.2 i xs hx
  rw [hpg i a hy] at ha'
  obtain rfl := Option.some.inj ha'
  exact hq)
 have s6 := aBd s5
 have s7 := ahz (A := pcS SR1.kt (.row 18 xss) (.slice A' xss.length c')) (fun k hk =>aaH.2 (show pcW SR1.kt (obS SR1.kt) (rwS SR1.kt) (.row 18 xss) _ k from ⟨A',c',rfl,adq.2 ⟨(aAD xss ps).map anZ,by
  rw [show ((aAD xss ps).map anZ).flatten = (aAD xss ps).flatMap anZ from by rw [List.flatMap_def]]
  exact hk⟩⟩)) s6
 exact (s7.perm (List.Perm.swap ..)).drop
theorem auf : CO Tryz.prog ail := fun x out hx B W hg vs F w hw =>by
 obtain ⟨hb,hB,hs⟩ := hw
 replace hx : ahS x.1 = some out := hx
 unfold ahS at hx
 split at hx
 ·rename_i hl
  cases hx
  show af6 Tryz.prog ail.f _ w _
  rw [ad7 rfl]
  rcases vs with _ | ⟨v,_ | ⟨v2,vs⟩⟩
  ·exact aaQ hs
  ·exact (asA x.1 hl B W v F w ⟨hb,hB,hs⟩).mono fun e w' ⟨u,he,h⟩ =>⟨[u],he,h⟩
  ·replace hs : Sat B w (pcS SR1.kt (.rr 3 x.1) v :: ([fun _ =>False] ++ [F])) := hs
   exact aaQ hs.drop
 ·cases hx
end
section
open Go.RowKit
set_option maxHeartbeats 400000 in
theorem af5 (a b c : Int) (w : World) :
  Calls Tryz.prog 89 #[.int .i64 a,.int .i64 b,.int .i64 c] w fun e w' =>e = .returned (.bool (inB a b c)) ∧ w = w' := by
 unfold inB
 by_cases h : b ≤ a
 all_goals
  go_enter Tryz.func89,Tryz.ntmps89
  go_wp2
  go_ret
  all_goals (simp [*] <;> omega)
set_option maxHeartbeats 1000000 in
theorem aho (c : Cfg) (l : CfgAt) (w : World) :
  Calls Tryz.prog 69 #[auB c l] w fun e w' =>e = .returned (.bool (akp c)) ∧ Below w.heap.size w w' := by
 unfold auB akp
 by_cases hl : c.levels < 8
 all_goals
  go_enter Tryz.func69,Tryz.ntmps69
  go_wp2_with (first | (go_at_call 89; refine (af5 _ _ _ _).mono ?_; rintro e w' ⟨rfl,rfl⟩))
  all_goals go_ret
  all_goals simp [*]
  all_goals exact (Below.refl _ _).alloc (Nat.le_refl _) _
set_option maxHeartbeats 1000000 in
theorem anz (c : Cfg) (l : CfgAt) (x : Ins) (w : World) (h1 : 1 ≤ c.levels) (h2 : c.levels ≤ 64) (hp : c.progs.length ≤ 9223372036854775807) :
  Calls Tryz.prog 90 #[auB c l,.agg #[.int .i64 x.op,.int .i64 x.a,.int .i64 x.b]] w fun e w' =>e = .returned (.bool (aqq c.levels c.progs.length x)) ∧ Below w.heap.size w w' := by
 unfold auB
 go_enter Tryz.func90,Tryz.ntmps90
 go_wp2_with (first | (go_at_call 89; refine (af5 _ _ _ _).mono ?_; rintro e w' ⟨rfl,rfl⟩))
 all_goals go_ret
 all_goals refine ⟨aBf (by unfold aqq; simp_all),?_⟩
 all_goals exact ((Below.refl _ _).alloc (Nat.le_refl _) _).alloc (by simp) _
theorem alj {lv np : Int} {ps : List (List Ins)} {k : Nat} (hk : k < ps.length) (h : abz lv np (ps.drop k) = abz lv np ps) (hl : 32 < ps[k].length) : abz lv np ps = 2 := by
 rw [← h,List.drop_eq_getElem_cons hk]; simp [abz,hl]
theorem amz {lv np : Int} {ps : List (List Ins)} {k j : Nat} (hk : k < ps.length) (h : abz lv np (ps.drop k) = abz lv np ps) (hl : ps[k].length ≤ 32) (hj : j < ps[k].length) (hb : aqq lv np ps[k][j] = false) : abz lv np ps = 1 := by
 rw [← h,List.drop_eq_getElem_cons hk]
 have : ps[k].all (aqq lv np) = false := by
  rw [List.all_eq_false]; exact ⟨_,List.getElem_mem hj,by simp [hb]⟩
 simp [abz,Nat.not_lt.2 hl,this]
theorem ali {lv np : Int} {ps : List (List Ins)} {k : Nat} (hk : k < ps.length) (h : abz lv np (ps.drop k) = abz lv np ps) (hl : ps[k].length ≤ 32) (ha : (ps[k].take ps[k].length).all (aqq lv np) = true) : abz lv np (ps.drop (k + 1)) = abz lv np ps := by
 rw [← h,List.drop_eq_getElem_cons hk]
 rw [List.take_length] at ha
 simp [abz,Nat.not_lt.2 hl,ha]
theorem asP {α : Type} {f : α → Bool} {l : List α} {j : Nat} (hj : j < l.length) (h : (l.take j).all f = true) (hf : f l[j] = true) : (l.take (j + 1)).all f = true := by
 rw [List.take_succ_eq_append_getElem hj,List.all_append,h]; simp [hf]
def aJB (lv np : Int) (ps : List (List Ins)) (k : Nat) : Prop := abz lv np (ps.drop k) = abz lv np ps
def aJu (lv np : Int) (p : List Ins) (k : Nat) : Prop := (p.take k).all (aqq lv np) = true
@[reducible] def az7 (c : Cfg) (l : CfgAt) : Obj := .cells #[.int .i64 c.workers,.int .i64 c.levels,.int .i64 c.classes,.int .i64 c.tasks,.int .i64 c.deque,.int .i64 c.heap,.int .i64 c.batch,.int .i64 c.age,.int .i64 c.patience,.slice l.pa c.progs.length l.pc,.slice l.sa c.subs.length l.sc] 28
set_option maxHeartbeats 2000000 in
theorem ajv (c : Cfg) (l : CfgAt) (w : World) (h1 : 1 ≤ c.levels) (h2 : c.levels ≤ 64) (hc : amf w w.heap.size c l) :
  Calls Tryz.prog 70 #[auB c l] w fun e w' =>e = .returned (.int .i64 (adR c)) ∧ Below w.heap.size w w' := by
 have hlen := hc.1.1
 by_cases hp : inB (c.progs.length : Int) 1 32 = true
 ·have hfin : adR c = abz c.levels c.progs.length c.progs := by simp [adR,hp]
  have Hfin := Lib.hid hfin
  clear hfin
  unfold auB
  go_enter Tryz.func70,Tryz.ntmps70
  go_wp2_with (first | (go_at_call 89; refine (af5 _ _ _ _).mono ?_; rintro e w' ⟨rfl,rfl⟩))
  go_loopw [15] (fun i wr =>∃ k : Nat,k ≤ c.progs.length ∧ i = .int .i64 k ∧ aJB c.levels c.progs.length c.progs k ∧ Below (w.heap.size + 1) (w.alloc (az7 c l)) wr) (fun i _ =>c.progs.length - (intOf i).toNat)
  case atStart =>exact ⟨0,Nat.zero_le _,rfl,rfl,Below.refl _ _⟩
  case round =>
   obtain ⟨k,hk,rfl,hi,hb⟩ := hrel
   have hB : w.heap.size < wr.heap.size := by have := hb.size; simp at this; omega
   have hbw : Below w.heap.size w wr := ((Below.refl _ _).alloc (Nat.le_refl _) _).trans (hb.mono (by omega))
   by_cases hlt : k < c.progs.length
   ·obtain ⟨b,o,hpa,hbb,Ai,ci,hcell,hsl⟩ := hc.1.at_ hlt
    have hln := hsl.len
    obtain ⟨hcs,hfz⟩ := asJ hb
    by_cases hlong : 32 < c.progs[k].length
    ·have hres := Lib.hid (alj hlt hi hlong)
     obtain ⟨pa,pc,sa,sc⟩ := l
     obtain rfl : pa = some ⟨b,o,none⟩ := hpa
     go_wp2
     go_ret
     exact ⟨af8 (by rw [Hfin.out,hres.out]),hbw⟩
    ·obtain ⟨pa,pc,sa,sc⟩ := l
     obtain rfl : pa = some ⟨b,o,none⟩ := hpa
     go_wp2
     obtain ⟨wo,rfl⟩ : ∃ wo : World,wo = wr := ⟨_,rfl⟩
     clear hcs hfz
     go_loopw [24] (fun i ws =>∃ j : Nat,j ≤ c.progs[k].length ∧ i = .int .i64 j ∧ aJu c.levels c.progs.length c.progs[k] j ∧ Below (w.heap.size + 1) (w.alloc (az7 c ⟨some ⟨b,o,none⟩,pc,sa,sc⟩)) ws) (fun i _ =>c.progs[k].length - (intOf i).toNat)
     case atStart =>exact ⟨0,Nat.zero_le _,rfl,by simp [aJu],hb⟩
     case round =>
      obtain ⟨j,hj,rfl,hq,hb2⟩ := hrel
      have hB2 : w.heap.size < wr.heap.size := by have := hb2.size; simp at this; omega
      have hbw2 : Below w.heap.size w wr := ((Below.refl _ _).alloc (Nat.le_refl _) _).trans (hb2.mono (by omega))
      by_cases hjt : j < c.progs[k].length
      ·obtain ⟨b2,o2,hpa2,hbb2,hcc⟩ := hsl.at_ hjt
       obtain rfl : Ai = some ⟨b2,o2,none⟩ := hpa2
       obtain ⟨hcs,hfz⟩ := asJ hb2
       have c0 : w.cell? ⟨b2,o2 + j * 3,none⟩ = some (.int .i64 c.progs[k][j].op) := hcc j hjt 0 _ rfl
       have c1 : w.cell? ⟨b2,o2 + j * 3 + 1,none⟩ = some (.int .i64 c.progs[k][j].a) := hcc j hjt 1 _ rfl
       have c2 : w.cell? ⟨b2,o2 + j * 3 + 2,none⟩ = some (.int .i64 c.progs[k][j].b) := hcc j hjt 2 _ rfl
       by_cases hok : aqq c.levels c.progs.length c.progs[k][j] = true
       ·go_wp2_with (first | (go_at_call 90; refine (anz c ⟨some ⟨b,o,none⟩,pc,sa,sc⟩ c.progs[k][j] _ h1 h2 hlen).mono ?_; rintro e w' ⟨rfl,hbv⟩))
        go_roundw
        case rel =>exact ⟨j + 1,by omega,by go_num,asP hjt hq hok,(hb2.alloc (by omega) _).trans (hbv.mono (by simp; omega))⟩
        case measure =>simp [intOf]; omega
       ·have hok' : aqq c.levels c.progs.length c.progs[k][j] = false := by simpa using hok
        clear hok
        have hres := Lib.hid (amz hlt hi (by omega) hjt hok')
        go_wp2_with (first | (go_at_call 90; refine (anz c ⟨some ⟨b,o,none⟩,pc,sa,sc⟩ c.progs[k][j] _ h1 h2 hlen).mono ?_; rintro e w' ⟨rfl,hbv⟩))
        go_ret
        exact ⟨af8 (by rw [Hfin.out,hres.out]),((Below.refl _ _).alloc (Nat.le_refl _) _).trans (((hb2.alloc (by omega) _).trans (hbv.mono (by simp; omega))).mono (by omega))⟩
      ·obtain ⟨hcs,hfz⟩ := asJ hb2
       go_wp2
       go_roundw
       case rel =>exact ⟨k + 1,by omega,by go_num,ali hlt hi (by omega) (by
        have e : j = c.progs[k].length := by omega
        subst e; exact hq),hb2⟩
       case measure =>simp [intOf]; omega
   ·go_wp2
    go_ret
    exact ⟨af8 (by
     have hi' : abz c.levels c.progs.length (c.progs.drop k) = abz c.levels c.progs.length c.progs := hi
     rw [Hfin.out,← hi',List.drop_eq_nil_of_le (by omega)]; rfl),hbw⟩
 ·have hfin : adR c = 2 := by simp [adR,hp]
  have Hfin := Lib.hid hfin
  clear hfin
  unfold auB
  go_enter Tryz.func70,Tryz.ntmps70
  go_wp2_with (first | (go_at_call 89; refine (af5 _ _ _ _).mono ?_; rintro e w' ⟨rfl,rfl⟩))
  go_ret
  exact ⟨af8 Hfin.out.symm,(Below.refl _ _).alloc (Nat.le_refl _) _⟩
theorem anI {lv np : Int} {ss : List Sub} {k : Nat} (hk : k < ss.length) (h : adK lv np (ss.drop k) = adK lv np ss) {e : Int} (he : aoO lv np ss[k] = e) (hne : e ≠ 0) : adK lv np ss = e := by
 subst he
 rw [← h,List.drop_eq_getElem_cons hk]; simp [adK,hne]
theorem amm {lv np : Int} {ss : List Sub} {k : Nat} (hk : k < ss.length) (h : adK lv np (ss.drop k) = adK lv np ss) (he : aoO lv np ss[k] = 0) : adK lv np (ss.drop (k + 1)) = adK lv np ss := by
 rw [← h,List.drop_eq_getElem_cons hk]; simp [adK,he]
def aJA (lv np : Int) (ss : List Sub) (k : Nat) : Prop := adK lv np (ss.drop k) = adK lv np ss
set_option maxHeartbeats 2000000 in
theorem avw (c : Cfg) (l : CfgAt) (w : World) (h1 : 1 ≤ c.levels) (h2 : c.levels ≤ 64) (hc : amf w w.heap.size c l) :
  Calls Tryz.prog 71 #[auB c l] w fun e w' =>e = .returned (.int .i64 (ahj c)) ∧ Below w.heap.size w w' := by
 have hlen := hc.1.1
 have hlen2 := hc.2.1
 by_cases hp : 64 < c.subs.length
 ·have hfin : ahj c = 2 := by simp [ahj,hp]
  have Hfin := Lib.hid hfin
  clear hfin
  unfold auB
  go_enter Tryz.func71,Tryz.ntmps71
  go_wp2
  go_ret
  exact ⟨af8 Hfin.out.symm,(Below.refl _ _).alloc (Nat.le_refl _) _⟩
 ·have hfin : ahj c = adK c.levels c.progs.length c.subs := by simp [ahj,hp]
  have Hfin := Lib.hid hfin
  clear hfin
  unfold auB
  go_enter Tryz.func71,Tryz.ntmps71
  go_wp2
  go_loopw [12] (fun i wr =>∃ k : Nat,k ≤ c.subs.length ∧ i = .int .i64 k ∧ aJA c.levels c.progs.length c.subs k ∧ Below (w.heap.size + 1) (w.alloc (az7 c l)) wr) (fun i _ =>c.subs.length - (intOf i).toNat)
  case atStart =>exact ⟨0,Nat.zero_le _,rfl,rfl,Below.refl _ _⟩
  case round =>
   obtain ⟨k,hk,rfl,hi,hb⟩ := hrel
   have hB : w.heap.size < wr.heap.size := by have := hb.size; simp at this; omega
   have hbw : Below w.heap.size w wr := ((Below.refl _ _).alloc (Nat.le_refl _) _).trans (hb.mono (by omega))
   obtain ⟨hcs,hfz⟩ := asJ hb
   by_cases hlt : k < c.subs.length
   ·obtain ⟨b,o,hpa,hbb,hcc⟩ := hc.2.at_ hlt
    obtain ⟨pa,pc,sa,sc⟩ := l
    obtain rfl : sa = some ⟨b,o,none⟩ := hpa
    have c0 : w.cell? ⟨b,o + k * 3,none⟩ = some (.int .i64 c.subs[k].prog) := hcc k hlt 0 _ rfl
    have c1 : w.cell? ⟨b,o + k * 3 + 1,none⟩ = some (.int .i64 c.subs[k].level) := hcc k hlt 1 _ rfl
    have c2 : w.cell? ⟨b,o + k * 3 + 2,none⟩ = some (.int .i64 c.subs[k].deadline) := hcc k hlt 2 _ rfl
    have hse : aoO c.levels c.progs.length c.subs[k] = if !inB c.subs[k].prog 0 (c.progs.length - 1) then 3 else if !inB c.subs[k].level 0 (c.levels - 1) || !inB c.subs[k].deadline 0 16777215 then 1 else 0 := rfl
    have Hse := Lib.hid hse
    clear hse
    have bad := fun e he hne =>Lib.hid (anI (e := e) hlt hi he hne)
    by_cases g1 : inB c.subs[k].prog 0 (c.progs.length - 1) = true
    ·by_cases g2 : inB c.subs[k].level 0 (c.levels - 1) = true
     ·by_cases g3 : inB c.subs[k].deadline 0 16777215 = true
      ·go_wp2_with (first | (go_at_call 89; refine (af5 _ _ _ _).mono ?_; rintro e w' ⟨rfl,rfl⟩))
       go_roundw
       case rel =>exact ⟨k + 1,by omega,by go_num,amm hlt hi (by rw [Hse.out]; simp [g1,g2,g3]),hb.alloc (by omega) _⟩
       case measure =>simp [intOf]; omega
      ·go_wp2_with (first | (go_at_call 89; refine (af5 _ _ _ _).mono ?_; rintro e w' ⟨rfl,rfl⟩))
       go_ret
       exact ⟨af8 (by rw [Hfin.out,(bad 1 (by rw [Hse.out]; simp [g1,g2,g3]) (by omega)).out]),hbw.alloc (by omega) _⟩
     ·go_wp2_with (first | (go_at_call 89; refine (af5 _ _ _ _).mono ?_; rintro e w' ⟨rfl,rfl⟩))
      go_ret
      exact ⟨af8 (by rw [Hfin.out,(bad 1 (by rw [Hse.out]; simp [g1,g2]) (by omega)).out]),hbw.alloc (by omega) _⟩
    ·go_wp2_with (first | (go_at_call 89; refine (af5 _ _ _ _).mono ?_; rintro e w' ⟨rfl,rfl⟩))
     go_ret
     exact ⟨af8 (by rw [Hfin.out,(bad 3 (by rw [Hse.out]; simp [g1]) (by omega)).out]),hbw.alloc (by omega) _⟩
   ·go_wp2
    go_ret
    exact ⟨af8 (by
     have hi' : adK c.levels c.progs.length (c.subs.drop k) = adK c.levels c.progs.length c.subs := hi
     rw [Hfin.out,← hi',List.drop_eq_nil_of_le (by omega)]; rfl),hbw⟩
set_option maxHeartbeats 2000000 in
theorem aui (c : Cfg) (l : CfgAt) (w : World) (hc : amf w w.heap.size c l) :
  Calls Tryz.prog 39 #[auB c l] w fun e w' =>e = .returned (.int .i64 (ae4 c)) ∧ Below w.heap.size w w' := by
 by_cases hn : akp c = true
 ·obtain ⟨_,_,h1,h2,_⟩ := ah4 hn
  by_cases hp : adR c = 0
  ·have hfin : ae4 c = ahj c := by simp [ae4,hn,hp]
   have Hfin := Lib.hid hfin
   clear hfin
   unfold auB
   go_enter Tryz.func39,Tryz.ntmps39
   go_wp2_with fail
   refine (aho c l _).mono ?_; rintro e w1 ⟨rfl,hb1⟩
   obtain ⟨hc1,hf1⟩ := asJ hb1
   have hw1 := ana hb1
   go_wp2_with fail
   refine (ajv c l _ h1 h2 (hc.up hw1)).mono ?_; rintro e w2 ⟨rfl,hb2⟩
   have hw2 := ahT hw1 hb2
   obtain ⟨hc2,hf2⟩ := asJ (ahT hb1 hb2)
   clear hc1 hf1
   go_wp2_with fail
   refine (avw c l _ h1 h2 (hc.up hw2)).mono ?_; rintro e w3 ⟨rfl,hb3⟩
   go_wp2_with fail
   go_ret
   exact ⟨af8 Hfin.out.symm,ahT hw2 hb3⟩
  ·have hfin : ae4 c = adR c := by simp [ae4,hn,hp]
   have Hfin := Lib.hid hfin
   have hp' : (adR c == 0) = false := by simpa using hp
   clear hfin hp
   unfold auB
   go_enter Tryz.func39,Tryz.ntmps39
   go_wp2_with fail
   refine (aho c l _).mono ?_; rintro e w1 ⟨rfl,hb1⟩
   obtain ⟨hc1,hf1⟩ := asJ hb1
   have hw1 := ana hb1
   go_wp2_with fail
   refine (ajv c l _ h1 h2 (hc.up hw1)).mono ?_; rintro e w2 ⟨rfl,hb2⟩
   have hw2 := ahT hw1 hb2
   obtain ⟨hc2,hf2⟩ := asJ (ahT hb1 hb2)
   clear hc1 hf1
   go_wp2_with fail
   go_ret
   exact ⟨af8 Hfin.out.symm,hw2⟩
 ·have hfin : ae4 c = 1 := by simp [ae4,hn]
  have Hfin := Lib.hid hfin
  clear hfin
  unfold auB
  go_enter Tryz.func39,Tryz.ntmps39
  go_wp2_with fail
  refine (aho c l _).mono ?_; rintro e w1 ⟨rfl,hb1⟩
  have hw1 := ana hb1
  go_wp2_with fail
  go_ret
  exact ⟨af8 Hfin.out.symm,hw1⟩
end
section
open Go Go.RowKit
variable [Tb]
theorem aFz {f : FuncId} (hf : Nat.blt f agT = true) {r : Cfg → Int} (h : ∀ (c : Cfg) (l : CfgAt) (w : World),amf w w.heap.size c l → Calls Tryz.prog f #[auB c l] w fun e w' =>e = .returned (.int .i64 (r c)) ∧ Below w.heap.size w w') :
  CO Tryz.prog (⟨f,[.val 13],[.sh sI_],fun x =>some ((r x.1,()),())⟩ : Con SR1) := fun x out hx B W hg vs F w hc =>by
 obtain ⟨hb,hB,hs⟩ := hc
 replace hx : (some ((r x.1,()),()) : Option ((Int × Unit) × Unit)) = some out := hx
 obtain rfl := Option.some.inj hx
 show af6 Tryz.prog f _ w _
 rw [ad7 hf]
 rcases vs with _ | ⟨v1,_ | ⟨v2,vs⟩⟩
 ·exact aaQ hs
 ·replace hs : Sat B w (aAN SR1 13 x.1 v1 :: [F]) := hs
  obtain ⟨p,rfl,hp,s1⟩ := aDY hs
  exact (h x.1 p w hp).mono fun e w' ⟨he,hb'⟩ =>⟨[.int .i64 (r x.1)],he,hb.trans (hb'.mono hB),Nat.le_trans hB hb'.size,aGo (S := SR1) (s1.below hb')⟩
 ·replace hs : Sat B w (aAN SR1 13 x.1 v1 :: ([fun _ =>False] ++ [F])) := hs
  exact aaQ hs.drop
def al5 (c : Cfg) : Option ((Int × Unit) × Unit) := some ((ae4 c,()),())
noncomputable abbrev am1 : Con SR1 := ⟨39,[.val 13],[.sh sI_],fun x =>al5 x.1⟩
theorem ap2 : CO Tryz.prog am1 := aFz (by kernel_rfl) aui
end
section
open Go
def aaI {α : Type} (o : Option α) (P : α → Prop) : Prop := ∃ x,o = some x ∧ P x
section
variable {α β : Type} {o : Option α} {P Q : α → Prop} {x : α}
theorem aaI.some_ (h : P x) : aaI (some x) P := ⟨x,rfl,h⟩
theorem aaI.bind {f : α → Option β} {Q : β → Prop} (h : aaI o P) (k : ∀ x,P x → aaI (f x) Q) : aaI (o.bind f) Q := by
 obtain ⟨x,rfl,hx⟩ := h
 exact k x hx
theorem aaI.ite {c : Prop} [Decidable c] {a b : Option α} (h1 : c → aaI a P) (h2 : ¬ c → aaI b P) : aaI (if c then a else b) P := by
 by_cases h : c
 ·rw [if_pos h]; exact h1 h
 ·rw [if_neg h]; exact h2 h
theorem aaI.guard {c : Prop} [Decidable c] {a b : Option α} (h : c) (k : c → aaI a P) : aaI (if c then a else b) P := by rw [if_pos h]; exact k h
theorem aaI.mono (h : aaI o P) (k : ∀ x,P x → Q x) : aaI o Q := by
 obtain ⟨x,e,hx⟩ := h
 exact ⟨x,e,k x hx⟩
end
def Rg (x : Int) : Prop := -9223372036854775808 ≤ x ∧ x ≤ 9223372036854775807
theorem aaF {x : Int} (h : Rg x) : wi x = x := w64 h.1 h.2
theorem aan {x : Int} (h : -1000000000000 ≤ x ∧ x ≤ 1000000000000) : Rg x := by unfold Rg; omega
theorem ara {a b : Int} (h1 : 1 ≤ b) (h2 : 0 ≤ a) : 0 ≤ Int.tmod a b ∧ Int.tmod a b < b := ⟨Int.tmod_nonneg b h2,Int.tmod_lt_of_pos a (by omega)⟩
theorem acr {σ β : Type} {F : (σ → Option β) → σ → Option β} (I : σ → Prop) (μ : σ → Nat) {P : β → Prop} (step : ∀ self x,I x → (∀ y,I y → μ y < μ x → aaI (self y) P) → aaI (F self x) P) : ∀ k x,I x → μ x < k → aaI (lpF F k x) P
 | 0,x,_,h =>by omega
 | k + 1,x,hx,h =>step (lpF F k) x hx fun y hy hlt =>acr I μ step k y hy (by omega)
theorem aun {α : Type} {d : α} {xs : List α} {i : Int} (h : 0 ≤ i ∧ i < (xs.length : Int)) : atL d xs i ∈ xs := List.mem_of_getElem? (aeI h)
theorem am9 {α β : Type} {G : Prop} [d : Decidable G] (A : Option α) (f : α → Option β) : (A.bind fun r =>if G then f r else none) = if G then A.bind f else none := by
 by_cases h : G
 ·simp only [if_pos h]
 ·simp only [if_neg h]; cases A <;> rfl
end
section
open Go.RowKit Go.Maps
set_option maxRecDepth 100000
theorem ayb (w : World) : (Go.underlying 165).run Tryz.prog w = .ok (.pointer 170) w := ack Tryz.underlying165
theorem aya (w : World) : (zeroValue 165).run Tryz.prog w = .ok (.pointer none) w := by
 obtain ⟨i,hi⟩ : ∃ i,Tryz.prog.info? 165 = some i ∧ i.zero = some (.pointer none) := ⟨_,rfl,by kernel_rfl⟩
 unfold zeroValue
 rw [aaa (acf hi.1)]
 simp [hi.2]
theorem aGj (w : World) : (Instr.typeAssert .nilIface 148 165 true).run Tryz.prog w = .ok (.tuple #[.pointer none,.bool false]) w := by
 simp [Instr.typeAssert,ayb,aya]
theorem aAQ (w : World) (T : TypeId) (u : Value) (h : T ≠ 165) : (Instr.typeAssert (.iface T u) 148 165 true).run Tryz.prog w = .ok (.tuple #[.pointer none,.bool false]) w := by
 simp [Instr.typeAssert,ayb,aya,h]
theorem aIv (w : World) (u : Value) : (Instr.typeAssert (.iface 165 u) 148 165 true).run Tryz.prog w = .ok (.tuple #[u,.bool true]) w := by
 simp [Instr.typeAssert,ayb]
theorem axP (w : World) : Calls Tryz.prog 76 #[.nilIface] w fun e w' =>e = .returned (.bool false) ∧ w' = w := by
 have q := aGj
 go_enter Tryz.func76,Tryz.ntmps76
 go_wp2
 go_ret
 exact ⟨rfl,rfl⟩
theorem aup (w : World) (T : TypeId) (u : Value) (h : T ≠ 165) : Calls Tryz.prog 76 #[.iface T u] w fun e w' =>e = .returned (.bool false) ∧ w' = w := by
 have q : ∀ w,(Instr.typeAssert (.iface T u) 148 165 true).run Tryz.prog w = .ok (.tuple #[.pointer none,.bool false]) w := fun w =>aAQ w T u h
 clear h
 go_enter Tryz.func76,Tryz.ntmps76
 go_wp2
 go_ret
 exact ⟨rfl,rfl⟩
theorem auo (w : World) (b o : Nat) (l : Int) (h : w.cell? ⟨b,o + 4,none⟩ = some (.int .i64 l)) : Calls Tryz.prog 76 #[.iface 165 (.pointer (some ⟨b,o,none⟩))] w fun e w' =>e = .returned (.bool (decide (l = 5))) ∧ w' = w := by
 have q : ∀ w,(Instr.typeAssert (.iface 165 (.pointer (some ⟨b,o,none⟩))) 148 165 true).run Tryz.prog w = .ok (.tuple #[.pointer (some ⟨b,o,none⟩),.bool true]) w := fun w =>aIv w _
 go_enter Tryz.func76,Tryz.ntmps76
 go_wp2
 go_ret
 exact ⟨rfl,rfl⟩
end
section
open Go Go.RowKit
variable [Tb]
set_option maxRecDepth 100000
def asl : MV → Bool
 | .sleep x =>decide (x.line = 5)
 | _ =>false
noncomputable def amG (m : MV) : Option ((Bool × Unit) × (MV × Unit)) := some ((asl m,()),(m,()))
noncomputable abbrev ai5 : Con SR1 := ⟨76,[.mch],[.sh .b],fun x =>amG x.1⟩
theorem axQ {m : MV} {B : Nat} {w : World} {v : Value} {F : aad} (hs : Sat B w (pcS SR1.kt (.mach m) v :: [F])) : Calls Tryz.prog 76 #[v] w fun e w' =>e = .returned (.bool (asl m)) ∧ w' = w := by
 obtain ⟨hh,Hh,j1,j2,ja,je,h1,hL⟩ := hs
 cases m
 case nil =>
  rw [aaH] at h1
  obtain rfl : v = .nilIface := h1
  exact axP w
 case sleep x =>
  obtain ⟨⟨q1,q2⟩,rfl,ho⟩ := (alD (K := SR1.kt) rfl).1 h1
  obtain ⟨vs,hst⟩ := akF.1 ho
  obtain ⟨rfl,hp⟩ := alm (K := SR1.kt) (L := [pts q1 q2 vs]) rfl (abF (List.perm_append_comm (l₁ := [pts q1 q2 vs])) hst)
  have s2 : Sat B w (pts q1 q2 _ :: [F]) := ⟨hh,Hh,aao.2 ⟨j1,j2,ja,je,hp,hL⟩⟩
  have hc := (s2.cell (i := 4) (v := .int .i64 x.line) rfl).2.1
  exact auo w q1 q2 x.line hc
 all_goals
  obtain ⟨q,rfl,_⟩ := (alD (K := SR1.kt) rfl).1 h1
  exact aup w _ _ (Nat.ne_of_beq_eq_false (by kernel_rfl))
theorem arA : CO Tryz.prog ai5 := fun x out hx B W hg vs F w hw =>by
 obtain ⟨hb,hB,hs⟩ := hw
 obtain ⟨m,u⟩ := x
 cases hx
 show af6 Tryz.prog ai5.f _ w _
 rw [ad7 rfl]
 rcases vs with _ | ⟨v,_ | ⟨v2,vs⟩⟩
 ·exact aaQ hs
 ·have hs0 : Sat B w (pcS SR1.kt (.mach m) v :: [F]) := hs
  refine (axQ hs0).mono fun e w' ⟨he,hw'⟩ =>⟨[.bool (asl m)],he,?_⟩
  subst hw'
  exact ⟨hb,hB,abh (p := pcS SR1.kt (.b (asl m)) (.bool (asl m))) hs0 fun h =>aaH.2 rfl⟩
 ·replace hs : Sat B w (pcS SR1.kt (.mach m) v :: ([fun _ =>False] ++ [F])) := hs
  exact aaQ hs.drop
end
section
open Go Go.RowKit Go.Maps
set_option maxRecDepth 100000
def tzI (x : Int) : Int := IntKind.u64.wrap (bits BinOp.and IntKind.u64 x (IntKind.u64.wrap (-x)) * 285870213051353865) / 288230376151711744
theorem aGf (a : Int) : 0 ≤ IntKind.u64.wrap a ∧ IntKind.u64.wrap a ≤ 18446744073709551615 := by
 simp only [IntKind.wrap,IntKind.bits,IntKind.signed]
 simp
 omega
theorem ax6 (x : Int) : 0 ≤ tzI x ∧ tzI x < 64 := by
 unfold tzI
 have h := aGf (bits BinOp.and IntKind.u64 x (IntKind.u64.wrap (-x)) * 285870213051353865)
 omega
theorem aDl (w : World) : Calls Tryz.prog 197 #[.int .u64 0] w fun e w' =>e = .returned (.int .i64 64) ∧ w' = w := by
 go_enter Tryz.func197,Tryz.ntmps197
 go_wp2
 go_ret
 exact ⟨rfl,rfl⟩
theorem aAO (w : World) (x : Int) (h : ¬ x = 0) (b : Int) (hI : 0 ≤ IntKind.u64.wrap (bits BinOp.and IntKind.u64 x (IntKind.u64.wrap (-x)) * 285870213051353865) / 288230376151711744 ∧ IntKind.u64.wrap (bits BinOp.and IntKind.u64 x (IntKind.u64.wrap (-x)) * 285870213051353865) / 288230376151711744 < 64) (hb : w.cell? ⟨0,(IntKind.u64.wrap (bits BinOp.and IntKind.u64 x (IntKind.u64.wrap (-x)) * 285870213051353865) / 288230376151711744).toNat,none⟩ = some (.int .u8 b)) : Calls Tryz.prog 197 #[.int .u64 x] w fun e w' =>e = .returned (.int .i64 (wrap64 b)) ∧ w' = w := by
 go_enter Tryz.func197,Tryz.ntmps197
 go_wp2
 go_ret
 exact ⟨rfl,rfl⟩
variable [T : Tb]
def tzV (x : Int) : Int := if x = 0 then 64 else wrap64 (T.tb (tzI x).toNat)
def pTz (x : Int) : Option ((Int × Unit) × Unit) := some ((tzV x,()),())
noncomputable abbrev aEn : Con SR1 := ⟨197,[.sh sU_],[.sh sI_],fun x =>pTz x.1⟩
theorem aGD : CO Tryz.prog aEn := fun x out hx B W hg vs F w hw =>by
 obtain ⟨hb,hB,hs⟩ := hw
 obtain ⟨(x : Int),u⟩ := x
 cases hx
 show af6 Tryz.prog aEn.f _ w _
 rw [ad7 rfl]
 rcases vs with _ | ⟨v,_ | ⟨v2,vs⟩⟩
 ·exact aaQ hs
 ·have hs0 : Sat B w (pcS SR1.kt (.i .u64 x) v :: [F]) := hs
  have hv : v = .int .u64 x := by
   obtain ⟨_,_,_,_,_,_,h1,_⟩ := hs0
   exact (aaH.1 h1 : v = .int .u64 x)
  subst hv
  have hc : Calls Tryz.prog 197 #[.int .u64 x] w fun e w' =>e = .returned (.int .i64 (tzV x)) ∧ w' = w := by
   by_cases h : x = 0
   ·subst h
    exact aDl w
   ·refine (aAO w x h (T.tb (tzI x).toNat) (ax6 x) ?_).mono fun e w' ⟨he,hw⟩ =>⟨by rw [he]; unfold tzV; rw [if_neg h],hw⟩
    exact ((asJ hb).1 0 _ hg.1).trans (hg.2 _ ((Int.toNat_lt (ax6 x).1).2 (ax6 x).2))
  refine hc.mono fun e w' ⟨he,hw'⟩ =>⟨[.int .i64 (tzV x)],he,?_⟩
  subst hw'
  exact ⟨hb,hB,abh (p := pcS SR1.kt (.i .i64 (tzV x)) (.int .i64 (tzV x))) hs0.drop fun h =>aaH.2 rfl⟩
 ·replace hs : Sat B w (pcS SR1.kt (.i .u64 x) v :: ([fun _ =>False] ++ [F])) := hs
  exact aaQ hs.drop
end
section
open Go.RowKit Go.Maps
end
section
open Go Go.RowKit
variable [Tb]
end
end Go.Proofs.YteapeojalliebaaGreat
