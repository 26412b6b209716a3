/- For every input worksteallaw33.CommuteNeighbours returns true,does not panic,and each argument reads behind the call as it read before. Conditions: none beyond the row's own standing ones. -/
import Derived.Test.YtidhehdanppcoaaGreatCnah
import Derived.Test.YtidhehdanppcoaaGreatCnas
set_option linter.all false
namespace Go.Proofs.YtidhehdanppcoaaGreat
open Go.ChangeShapes Go.WideShapes Go.ChangeAt Go.RowKit
set_option maxRecDepth 100000
theorem Tryz.own : ownKnob Tryz.prog.godebug = none := by kernel_rfl
theorem Tryz.laidOut : laidOutB Tryz.prog = true := by kernel_rfl
theorem aDV {H : Type} {enc : TypeId × Value → H} {P : Program} {f : Func} {s : ChangeSpec} {apart fresh handsOn : Bool} {W W' : World} {args : Array Value} {v : Value} {ds gs : List (DataW H)} {before pa pv : List MemPlace}
  (hW : DataW.Whole enc P f.params.toList s.vars apart W args.toList ds gs before)
  (hres : ∀ (b : Nat) (sp : Nat → Bool) (hd : Bool),DataW.TrodAll enc P W' b sp hd f.resultTypes.toList (v.resultList f.resultTypes.size) (s.fn H (ds ++ gs)).results [])
  (hargs : DataW.TrodAll enc P W' 0 (fun b =>decide (b < W.heap.size)) true f.params.toList args.toList (s.fn H (ds ++ gs)).args pa)
  (hvars : DataW.TrodVars enc P W' (fun b =>decide (b < W.heap.size)) s.vars (s.fn H (ds ++ gs)).vars pv)
  (hps : before = pa ++ pv) (hb : Below W.heap.size W W') :
  s.post enc P f apart fresh handsOn false W args v W' := by
 have hlt : ∀ p ∈ before,p.block < W.heap.size := fun p hp =>hW.lt p hp
 refine ⟨ds,gs,before,[],pa,pv,hW,hres _ _ _,hargs,hvars,World.keptBut_mono (fun p hp =>⟨hp,?_⟩) (hb.frame (· ∈ before)),fun h =>by cases h⟩
 rw [hps,List.mem_append] at hp
 exact Or.inr hp
section
variable {H : Type} {enc : TypeId × Value → H} {w : World} {base : Nat} {spare : Nat → Bool} {held : Bool}
theorem aIw {v : Value} {d : DataW H} {p : List MemPlace} {r : Reach} {b0 : Nat} (hv : Value.okWide Tryz.prog w r b0 4 v) (_ : DataW.Trod enc Tryz.prog w base spare held 4 v d p) : ∃ z : Bool,True ∧ ∀ {L},Sat w.heap.size w L → Sat w.heap.size w (pcS SR1.kt (.b z) v :: L) := by
 obtain ⟨b,rfl⟩ := okWide_bool Tryz.underlying4 hv
 exact ⟨b,trivial,fun s =>abw s fun _ =>⟨0,rfl⟩⟩
end
theorem ai5 (os : Os) (started : os.Started) (H : Type) (enc : TypeId × Value → H) :
  ReturnsInHanded {} Tryz.checked os 5 .any (Rows.commuteNeighboursSpec.pre6 enc Tryz.prog Tryz.f5 Rows.commuteNeighboursRow.domain false) (Rows.commuteNeighboursSpec.post enc Tryz.prog Tryz.f5 false true false false) := by
 refine returnsInHanded_of_change_shaped (C := Tryz.checked) Tryz.own started (by kernel_rfl) Tryz.func5
  (ChangeSpec.witness6 (enc := enc) (C := Tryz.checked) false ⟨#[],#[.slice none 0 0,.slice none 0 0,.slice none 0 0,.int .i64 0,.bool false],[]⟩ 8 (by kernel_rfl) (by kernel_rfl) (by kernel_rfl) (by kernel_rfl)) ?_
 intro W base args ds gs before hval0 hW hcnd _ hsh _
 have hval : ∀ (j : Nat) t v,Tryz.f5.params[j]? = some t → args[j]? = some v → Value.okWide Tryz.prog W .any base t v := hval0
 have hW' := hW
 obtain ⟨p,q,hA0,hV,rfl,hfz,hnd⟩ := hW
 have hA : DataW.TrodAll enc Tryz.prog W 0 (fun _ =>true) true Tryz.f5.params.toList args.toList ds p := hA0
 rw [Tryz.params5] at hA hval
 obtain ⟨v0,vs0,d0,ds0,p0,q0,hargs,rfl,rfl,h0,hr0⟩ := trodAll_cons hA
 obtain ⟨v1,vs1,d1,ds1,p1,q1,rfl,rfl,rfl,h1,hr1⟩ := trodAll_cons hr0
 obtain ⟨v2,vs2,d2,ds2,p2,q2,rfl,rfl,rfl,h2,hr2⟩ := trodAll_cons hr1
 obtain ⟨v3,vs3,d3,ds3,p3,q3,rfl,rfl,rfl,h3,hr3⟩ := trodAll_cons hr2
 obtain ⟨v4,vs4,d4,ds4,p4,q4,rfl,rfl,rfl,h4,hr4⟩ := trodAll_cons hr3
 obtain ⟨rfl,rfl,rfl⟩ := trodAll_nil hr4
 obtain rfl : args = #[v0,v1,v2,v3,v4] := by cases args; simp_all
 obtain ⟨rfl,rfl⟩ := trodVars_none hV
 obtain ⟨x0,hw0,hs0⟩ := azc (hval 0 _ v0 rfl rfl) h0
 obtain ⟨x1,hw1,hs1⟩ := azc (hval 1 _ v1 rfl rfl) h1
 obtain ⟨x2,hw2,hs2⟩ := aHW (hval 2 _ v2 rfl rfl) h2
 obtain ⟨x3,hw3,hs3⟩ := aKh (hval 3 _ v3 rfl rfl) h3
 obtain ⟨x4,hw4,hs4⟩ := aIw (hval 4 _ v4 rfl rfl) h4
 have hlt : ∀ x ∈ p0 ++ (p1 ++ (p2 ++ (p3 ++ (p4)))),x.block < W.heap.size := fun x hx =>by simpa using hW'.lt x (by simpa using hx)
 clear hA0 hval0
 simp only [List.append_nil] at hW'
 obtain ⟨_,hg⟩ := aH1 aBJ (of_decide_eq_true (by kernel_rfl)) hsh
 have hcall : Calls Tryz.prog 5 #[v0,v1,v2,v3,v4] W fun e w' =>e = .returned (.bool true) ∧ Below W.heap.size W w' := by
  rcases aJ1 (y1 := x1) (y2 := x2) (y3 := x3) (y4 := x4) hw0 with ⟨⟨⟨a,⟨⟩⟩,o⟩,ht,ha⟩ | ⟨⟨⟨a,⟨⟩⟩,o⟩,ht,ha⟩ | ⟨⟨⟨a,⟨⟩⟩,o⟩,ht,ha⟩ | ⟨⟨⟨a,⟨⟩⟩,o⟩,ht,ha⟩
  ·have ha : a = true := ha
   subst ha
   exact anh (by kernel_rfl) afm (x := (x0,x1,x2,x3,x4,())) ht (vs := [v0,v1,v2,v3,v4]) hg (hs0 (hs1 (hs2 (hs3 (hs4 (abw (Sat.nil _ _) fun _ =>trivial))))))
  ·have ha : a = true := ha
   subst ha
   exact anh (by kernel_rfl) afk (x := (x0,x1,x2,x3,x4,())) ht (vs := [v0,v1,v2,v3,v4]) hg (hs0 (hs1 (hs2 (hs3 (hs4 (abw (Sat.nil _ _) fun _ =>trivial))))))
  ·have ha : a = true := ha
   subst ha
   exact anh (by kernel_rfl) afi (x := (x0,x1,x2,x3,x4,())) ht (vs := [v0,v1,v2,v3,v4]) hg (hs0 (hs1 (hs2 (hs3 (hs4 (abw (Sat.nil _ _) fun _ =>trivial))))))
  ·have ha : a = true := ha
   subst ha
   exact anh (by kernel_rfl) afg (x := (x0,x1,x2,x3,x4,())) ht (vs := [v0,v1,v2,v3,v4]) hg (hs0 (hs1 (hs2 (hs3 (hs4 (abw (Sat.nil _ _) fun _ =>trivial))))))
 refine hcall.mono fun e W' ⟨he,hbw⟩ =>?_
 subst he
 exact ⟨_,rfl,aDV (pa := p0 ++ (p1 ++ (p2 ++ (p3 ++ (p4))))) (pv := []) hW' (fun _ _ _ =>trodAll_mk1 (shut_bool Tryz.underlying4 true))
  (trodAll_cons_mk (Below.trod Tryz.laidOut (by kernel_rfl) (of_decide_eq_true (by kernel_rfl)) h0 hbw (fun x hx =>hlt x (by simp [hx])))
   (trodAll_cons_mk (Below.trod Tryz.laidOut (by kernel_rfl) (of_decide_eq_true (by kernel_rfl)) h1 hbw (fun x hx =>hlt x (by simp [hx])))
   (trodAll_cons_mk (Below.trod Tryz.laidOut (by kernel_rfl) (of_decide_eq_true (by kernel_rfl)) h2 hbw (fun x hx =>hlt x (by simp [hx])))
   (trodAll_cons_mk (Below.trod Tryz.laidOut (by kernel_rfl) (of_decide_eq_true (by kernel_rfl)) h3 hbw (fun x hx =>hlt x (by simp [hx])))
   (trodAll_mk1 (Below.trod Tryz.laidOut (by kernel_rfl) (of_decide_eq_true (by kernel_rfl)) h4 hbw (fun x hx =>hlt x (by simp [hx]))))))))
  rfl (by simp) hbw⟩
theorem commuteNeighbours_holds : Rows.CommuteNeighboursSaid :=
 OpenClaim.holds_of_wide 5 Tryz.f5 rfl rfl rfl rfl rfl rfl rfl ⟨rfl,rfl,rfl,rfl,rfl⟩ rfl rfl rfl rfl rfl (by kernel_rfl) Tryz.func5 (by kernel_rfl)
  (of_decide_eq_true (by kernel_rfl)) (by unfold Func.isWrapper; first | (rw [if_pos (by decide +kernel)]; kernel_rfl) | (rw [if_neg (by decide +kernel)]; exact ⟨rfl,rfl⟩))
  (fun os started H enc _ =>ai5 os started H enc)
end Go.Proofs.YtidhehdanppcoaaGreat
