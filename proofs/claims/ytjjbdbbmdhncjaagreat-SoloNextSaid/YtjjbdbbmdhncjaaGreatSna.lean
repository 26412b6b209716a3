/- For every input worksteallaw32.SoloNext returns true,does not panic,and each argument reads behind the call as it read before. Conditions: none beyond the row's own standing ones. -/
import Derived.Test.YtjjbdbbmdhncjaaGreatSzar
import Derived.Test.YtjjbdbbmdhncjaaGreatSzas
set_option linter.all false
namespace Go.Proofs.YtjjbdbbmdhncjaaGreat
open Go.ChangeShapes Go.WideShapes Go.ChangeAt Go.RowKit
set_option maxRecDepth 100000
instance : Tb := ⟨fun _ =>0,fun _ =>⟨Int.le_refl _,by decide⟩⟩
theorem Tryz.own : ownKnob Tryz.prog.godebug = none := by kernel_rfl
theorem Tryz.laidOut : laidOutB Tryz.prog = true := by kernel_rfl
theorem azb {H : Type} {enc : TypeId × Value → H} {P : Program} {f : Func} {s : ChangeSpec} {apart fresh handsOn : Bool} {W W' : World} {args : Array Value} {v : Value} {ds gs : List (DataW H)} {before pa pv : List MemPlace}
  (hW : DataW.Whole enc P f.params.toList s.vars apart W args.toList ds gs before)
  (hres : ∀ (b : Nat) (sp : Nat → Bool) (hd : Bool),DataW.TrodAll enc P W' b sp hd f.resultTypes.toList (v.resultList f.resultTypes.size) (s.fn H (ds ++ gs)).results [])
  (hargs : DataW.TrodAll enc P W' 0 (fun b =>decide (b < W.heap.size)) true f.params.toList args.toList (s.fn H (ds ++ gs)).args pa)
  (hvars : DataW.TrodVars enc P W' (fun b =>decide (b < W.heap.size)) s.vars (s.fn H (ds ++ gs)).vars pv)
  (hps : before = pa ++ pv) (hb : Below W.heap.size W W') :
  s.post enc P f apart fresh handsOn false W args v W' := by
 have hlt : ∀ p ∈ before,p.block < W.heap.size := fun p hp =>hW.lt p hp
 refine ⟨ds,gs,before,[],pa,pv,hW,hres _ _ _,hargs,hvars,World.keptBut_mono (fun p hp =>⟨hp,?_⟩) (hb.frame (· ∈ before)),fun h =>by cases h⟩
 rw [hps,List.mem_append] at hp
 exact Or.inr hp
theorem alk (os : Os) (started : os.Started) (H : Type) (enc : TypeId × Value → H) :
  ReturnsInHanded {} Tryz.checked os 3 .any (Rows.soloNextSpec.pre6 enc Tryz.prog Tryz.f3 Rows.soloNextRow.domain false) (Rows.soloNextSpec.post enc Tryz.prog Tryz.f3 false true false false) := by
 refine returnsInHanded_of_change (C := Tryz.checked) Tryz.own started (by kernel_rfl) Tryz.func3
  (ChangeSpec.witness6 (enc := enc) (C := Tryz.checked) false ⟨#[],#[.slice none 0 0,.slice none 0 0,.slice none 0 0,.slice none 0 0,.int .i64 0,.int .i64 0,.int .i64 0,.bool false],[]⟩ 8 (by kernel_rfl) (by kernel_rfl) (by kernel_rfl) (by kernel_rfl)) ?_
 intro W base args ds gs before hval0 hW hcnd _
 have hval : ∀ (j : Nat) t v,Tryz.f3.params[j]? = some t → args[j]? = some v → Value.okWide Tryz.prog W .any base t v := hval0
 have hW' := hW
 obtain ⟨p,q,hA0,hV,rfl,hfz,hnd⟩ := hW
 have hA : DataW.TrodAll enc Tryz.prog W 0 (fun _ =>true) true Tryz.f3.params.toList args.toList ds p := hA0
 rw [Tryz.params3] at hA hval
 obtain ⟨v0,vs0,d0,ds0,p0,q0,hargs,rfl,rfl,h0,hr0⟩ := trodAll_cons hA
 obtain ⟨v1,vs1,d1,ds1,p1,q1,rfl,rfl,rfl,h1,hr1⟩ := trodAll_cons hr0
 obtain ⟨v2,vs2,d2,ds2,p2,q2,rfl,rfl,rfl,h2,hr2⟩ := trodAll_cons hr1
 obtain ⟨v3,vs3,d3,ds3,p3,q3,rfl,rfl,rfl,h3,hr3⟩ := trodAll_cons hr2
 obtain ⟨v4,vs4,d4,ds4,p4,q4,rfl,rfl,rfl,h4,hr4⟩ := trodAll_cons hr3
 obtain ⟨v5,vs5,d5,ds5,p5,q5,rfl,rfl,rfl,h5,hr5⟩ := trodAll_cons hr4
 obtain ⟨v6,vs6,d6,ds6,p6,q6,rfl,rfl,rfl,h6,hr6⟩ := trodAll_cons hr5
 obtain ⟨v7,vs7,d7,ds7,p7,q7,rfl,rfl,rfl,h7,hr7⟩ := trodAll_cons hr6
 obtain ⟨rfl,rfl,rfl⟩ := trodAll_nil hr7
 obtain rfl : args = #[v0,v1,v2,v3,v4,v5,v6,v7] := by cases args; simp_all
 obtain ⟨rfl,rfl⟩ := trodVars_none hV
 obtain ⟨x0,hw0,hs0⟩ := atD (hval 0 _ v0 rfl rfl) h0
 obtain ⟨x1,hw1,hs1⟩ := atD (hval 1 _ v1 rfl rfl) h1
 obtain ⟨x2,hw2,hs2⟩ := aA5 (hval 2 _ v2 rfl rfl) h2
 obtain ⟨x3,hw3,hs3⟩ := aCd (hval 3 _ v3 rfl rfl) h3
 obtain ⟨x4,hw4,hs4⟩ := aw2 (hval 4 _ v4 rfl rfl) h4
 obtain ⟨x5,hw5,hs5⟩ := aw2 (hval 5 _ v5 rfl rfl) h5
 obtain ⟨x6,hw6,hs6⟩ := aw2 (hval 6 _ v6 rfl rfl) h6
 obtain ⟨x7,hw7,hs7⟩ := aCH (hval 7 _ v7 rfl rfl) h7
 have hlt : ∀ x ∈ p0 ++ (p1 ++ (p2 ++ (p3 ++ (p4 ++ (p5 ++ (p6 ++ (p7))))))),x.block < W.heap.size := fun x hx =>by simpa using hW'.lt x (by simpa using hx)
 clear hA0 hval0
 simp only [List.append_nil] at hW'
 have hcall : Calls Tryz.prog 3 #[v0,v1,v2,v3,v4,v5,v6,v7] W fun e w' =>e = .returned (.bool true) ∧ Below W.heap.size W w' := by
  obtain ⟨⟨⟨a,⟨⟩⟩,o⟩,ht,ha⟩ := aln (b := x0) (s := x1) (raw := x2) (ch := x3) hw0 hw2 x4 x5 x6 x7
  have ha : a = true := ha
  subst ha
  exact awW (by kernel_rfl) afN (x := (x0,x1,x2,x3,x4,x5,x6,x7,())) ht (vs := [v0,v1,v2,v3,v4,v5,v6,v7]) True.intro (hs0 (hs1 (hs2 (hs3 (hs4 (hs5 (hs6 (hs7 (abP (Sat.nil _ _) fun _ =>trivial)))))))))
 refine hcall.mono fun e W' ⟨he,hbw⟩ =>?_
 subst he
 exact ⟨_,rfl,azb (pa := p0 ++ (p1 ++ (p2 ++ (p3 ++ (p4 ++ (p5 ++ (p6 ++ (p7)))))))) (pv := []) hW' (fun _ _ _ =>trodAll_mk1 (shut_bool Tryz.underlying4 true))
  (trodAll_cons_mk (Below.trod Tryz.laidOut (by kernel_rfl) (of_decide_eq_true (by kernel_rfl)) h0 hbw (fun x hx =>hlt x (by simp [hx])))
   (trodAll_cons_mk (Below.trod Tryz.laidOut (by kernel_rfl) (of_decide_eq_true (by kernel_rfl)) h1 hbw (fun x hx =>hlt x (by simp [hx])))
   (trodAll_cons_mk (Below.trod Tryz.laidOut (by kernel_rfl) (of_decide_eq_true (by kernel_rfl)) h2 hbw (fun x hx =>hlt x (by simp [hx])))
   (trodAll_cons_mk (Below.trod Tryz.laidOut (by kernel_rfl) (of_decide_eq_true (by kernel_rfl)) h3 hbw (fun x hx =>hlt x (by simp [hx])))
   (trodAll_cons_mk (Below.trod Tryz.laidOut (by kernel_rfl) (of_decide_eq_true (by kernel_rfl)) h4 hbw (fun x hx =>hlt x (by simp [hx])))
   (trodAll_cons_mk (Below.trod Tryz.laidOut (by kernel_rfl) (of_decide_eq_true (by kernel_rfl)) h5 hbw (fun x hx =>hlt x (by simp [hx])))
   (trodAll_cons_mk (Below.trod Tryz.laidOut (by kernel_rfl) (of_decide_eq_true (by kernel_rfl)) h6 hbw (fun x hx =>hlt x (by simp [hx])))
   (trodAll_mk1 (Below.trod Tryz.laidOut (by kernel_rfl) (of_decide_eq_true (by kernel_rfl)) h7 hbw (fun x hx =>hlt x (by simp [hx])))))))))))
  rfl (by simp) hbw⟩
theorem soloNext_holds : Rows.SoloNextSaid :=
 OpenClaim.holds_of_wide 3 Tryz.f3 rfl rfl rfl rfl rfl rfl rfl ⟨rfl,rfl,rfl,rfl,rfl⟩ rfl rfl rfl rfl rfl (by kernel_rfl) Tryz.func3 (by kernel_rfl)
  (of_decide_eq_true (by kernel_rfl)) (by unfold Func.isWrapper; first | (rw [if_pos (by decide +kernel)]; kernel_rfl) | (rw [if_neg (by decide +kernel)]; exact ⟨rfl,rfl⟩))
  (fun os started H enc _ =>alk os started H enc)
end Go.Proofs.YtjjbdbbmdhncjaaGreat
