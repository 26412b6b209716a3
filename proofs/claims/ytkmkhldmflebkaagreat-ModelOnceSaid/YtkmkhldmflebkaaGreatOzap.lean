/- The reference's engine,said plainly,2: a new one; stamped events. Scripts and configurations. What is decoded is valid. Plain safety of scripts and configurations. What is decoded is valid. Runs of an engine. -/
import Derived.Test.YtkmkhldmflebkaaGreatOzao
import Derived.Test.YtkmkhldmflebkaaGreatOzai
set_option linter.all false
namespace Go.Proofs.YtkmkhldmflebkaaGreat
section
open Go
theorem at2 (n : Int) : 0 ≤ ahv n ∧ ahv n ≤ 131072 := by
 unfold ahv
 repeat' split
 all_goals omega
theorem atF (n : Int) : aq5 n = some (((⟨List.replicate (ahv n).toNat 0,⟨0,0,0,0⟩,0⟩ : MemV),()),()) := by
 have h := at2 n
 have h2 : 0 ≤ ahv n ∧ ahv n ≤ 1099511627776 := by omega
 have e : aq5 n = if ahv n = ahv n then (if 0 ≤ ahv n ∧ ahv n ≤ 1099511627776 then some (((⟨List.replicate (ahv n).toNat 0,⟨0,0,0,0⟩,0⟩ : MemV),()),()) else none) else none := rfl
 rw [e,if_pos rfl,if_pos h2]
noncomputable def nrF (N : Int) (c : Cfg) (self : Int × EnvV × Unit → Option (Int × EnvV × Unit)) (x : Int × EnvV × Unit) : Option (Int × EnvV × Unit) :=
 if x.1 < c.tasks then
  (aeq 0 (-1)).bind fun r6 =>
  if (((x.2.1.recs.length + ([r6.1.1] : List RecV).length : Nat)) : Int) < N then self (wi (x.1 + 1),({ x.2.1 with recs := x.2.1.recs ++ ([r6.1.1]) } : EnvV),()) else none
 else some (x.1,x.2.1,())
theorem awg (N : Int) (hN : 1000000 ≤ N) (c : Cfg) (G : Int × EnvV × Unit → Option (Int × EnvV × Unit)) (i : Nat) (e : EnvV) (h : (i : Int) < c.tasks) (hc : c.tasks ≤ 65535) (hr : e.recs.length = i) : nrF N c G ((i : Int),e,()) = G (((i + 1 : Nat) : Int),({ e with recs := e.recs ++ [ahW 0 (-1)] } : EnvV),()) := by
 have e1 : wi ((i : Int) + 1) = ((i + 1 : Nat) : Int) := by rw [aa7 (aab (by omega))]; omega
 have a2 : (((e.recs.length + ([ahW 0 (-1)] : List RecV).length : Nat)) : Int) < N := by rw [List.length_singleton]; omega
 have a3 : aeq 0 (-1) = some (((ahW 0 (-1)),()),()) := rfl
 unfold nrF
 rw [if_pos h,a3]
 simp only [Option.bind_some]
 rw [if_pos a2,e1]
theorem ayb (N : Int) (c : Cfg) (G : Int × EnvV × Unit → Option (Int × EnvV × Unit)) (i : Nat) (e : EnvV) (h : c.tasks ≤ (i : Int)) : nrF N c G ((i : Int),e,()) = some ((i : Int),e,()) := by
 have a1 : ¬ (i : Int) < c.tasks := by omega
 unfold nrF
 simp only [a1,if_false]
theorem awf {N : Int} (hN : 1000000 ≤ N) {c : Cfg} (hc : c.tasks ≤ 65535) (e : EnvV) : ∀ (j k i : Nat),(c.tasks - i).toNat = j → (i : Int) ≤ c.tasks → j < k → lpF (nrF N c) k ((i : Int),({ e with recs := List.replicate i (ahW 0 (-1)) } : EnvV),()) = some (c.tasks,({ e with recs := List.replicate c.tasks.toNat (ahW 0 (-1)) } : EnvV),()) := by
 intro j
 induction j with
 | zero =>
  intro k i hj hi hk
  obtain ⟨k,rfl⟩ : ∃ k',k = k' + 1 := ⟨k - 1,by omega⟩
  rw [abA,ayb _ _ _ _ _ (by omega),show (i : Int) = c.tasks by omega,show c.tasks.toNat = i by omega]
 | succ j ih =>
  intro k i hj hi hk
  obtain ⟨k,rfl⟩ : ∃ k',k = k' + 1 := ⟨k - 1,by omega⟩
  rw [abA,awg _ hN _ _ _ _ (by omega) hc (by simp)]
  have := ih k (i + 1) (by omega) (by omega) (by omega)
  rw [List.replicate_succ'] at this
  exact this
theorem aqX (cf : Cfg) : aps cf = (aiC cf).bind fun r1 =>if cf.workers = cf.workers then if cf.levels = cf.levels then if cf.classes = cf.classes then if cf.tasks = cf.tasks then if cf.deque = cf.deque then if cf.heap = cf.heap then if cf.batch = cf.batch then if cf.age = cf.age then if cf.patience = cf.patience then
  (aq5 r1.1.1).bind fun r2 =>if cf.workers = cf.workers then if cf.levels = cf.levels then if cf.classes = cf.classes then if cf.tasks = cf.tasks then if cf.deque = cf.deque then if cf.heap = cf.heap then if cf.batch = cf.batch then if cf.age = cf.age then if cf.patience = cf.patience then
  (lpF (nrF 100000000000 cf) 18446744073709551616 (0,(⟨cf,r2.1.1,0,0,[],[]⟩ : EnvV),())).bind fun z4 =>some ((z4.2.1,()),())
  else none else none else none else none else none else none else none else none else none else none else none else none else none else none else none else none else none else none := by kernel_rfl
theorem atC {c : Cfg} (hc : CfgOk c) : aps c = some ((au4 c,()),()) := by
 rw [aqX]
 simp only [apD,atF,Option.bind_some,if_true]
 have := awf (N := 100000000000) (by decide) (c := c) hc.t2 ⟨c,⟨List.replicate (ahv (asD c)).toNat 0,⟨0,0,0,0⟩,0⟩,0,0,[],[]⟩ c.tasks.toNat 18446744073709551616 0 (by omega) (by have := hc.t1; omega) (by have := hc.t2; omega)
 rw [show ((0 : Nat) : Int) = 0 from rfl] at this
 simp only [List.replicate_zero] at this
 rw [this]; rfl
noncomputable def nwF (N : Int) (c : Cfg) (self : Int × EngV × Unit → Option (Int × EngV × Unit)) (x : Int × EngV × Unit) : Option (Int × EngV × Unit) :=
 if x.1 < c.workers then
  if c.tasks ≠ 0 then
   (agw (⟨25,0,⟨0,0,0,0⟩,x.1,0,0,0,(Int.tmod x.1 c.tasks),0,0,0,0,0,0,[]⟩ : FrV)).bind fun r5 =>
   if (((x.2.1.m.length + ([r5.1.1] : List MaV).length : Nat)) : Int) < N then self (wi (x.1 + 1),({ x.2.1 with m := x.2.1.m ++ ([r5.1.1]) } : EngV),()) else none
  else none
 else some (x.1,x.2.1,())
theorem arE (f : FrV) (h : f.kind ≠ 22) : agw f = some (((⟨[{ f with line := 1 }],false,0,0⟩ : MaV),()),()) := by
 unfold agw; rw [if_neg h]
theorem awe (N : Int) (hN : 1000000 ≤ N) (c : Cfg) (G : Int × EngV × Unit → Option (Int × EngV × Unit)) (i : Nat) (x : EngV) (h : (i : Int) < c.workers) (hc : CfgOk c) (hr : x.m.length = i) : nwF N c G ((i : Int),x,()) = G (((i + 1 : Nat) : Int),({ x with m := x.m ++ [⟨[adW c i],false,0,0⟩] } : EngV),()) := by
 have w2 := hc.w2
 have e1 : wi ((i : Int) + 1) = ((i + 1 : Nat) : Int) := by rw [aa7 (aab (by omega))]; omega
 have a2 : (((x.m.length + ([⟨[adW c i],false,0,0⟩] : List MaV).length : Nat)) : Int) < N := by rw [List.length_singleton]; omega
 have a3 : agw (⟨25,0,⟨0,0,0,0⟩,(i : Int),0,0,0,(Int.tmod (i : Int) c.tasks),0,0,0,0,0,0,[]⟩ : FrV) = some (((⟨[adW c i],false,0,0⟩ : MaV),()),()) := arE _ (show (25 : Int) ≠ 22 by decide)
 have a4 : c.tasks ≠ 0 := by have := hc.t1; omega
 unfold nwF
 rw [if_pos h,if_pos a4,a3]
 simp only [Option.bind_some]
 rw [if_pos a2,e1]
theorem aya (N : Int) (c : Cfg) (G : Int × EngV × Unit → Option (Int × EngV × Unit)) (i : Nat) (x : EngV) (h : c.workers ≤ (i : Int)) : nwF N c G ((i : Int),x,()) = some ((i : Int),x,()) := by
 have a1 : ¬ (i : Int) < c.workers := by omega
 unfold nwF
 simp only [a1,if_false]
theorem awd {N : Int} (hN : 1000000 ≤ N) {c : Cfg} (hc : CfgOk c) (x : EngV) : ∀ (j k i : Nat),(c.workers - i).toNat = j → (i : Int) ≤ c.workers → j < k → lpF (nwF N c) k ((i : Int),({ x with m := (List.range i).map (fun w =>⟨[adW c w],false,0,0⟩) } : EngV),()) = some (c.workers,({ x with m := (List.range c.workers.toNat).map (fun w =>⟨[adW c w],false,0,0⟩) } : EngV),()) := by
 have w2 := hc.w2
 intro j
 induction j with
 | zero =>
  intro k i hj hi hk
  obtain ⟨k,rfl⟩ : ∃ k',k = k' + 1 := ⟨k - 1,by omega⟩
  rw [abA,aya _ _ _ _ _ (by omega),show (i : Int) = c.workers by omega,show c.workers.toNat = i by omega]
 | succ j ih =>
  intro k i hj hi hk
  obtain ⟨k,rfl⟩ : ∃ k',k = k' + 1 := ⟨k - 1,by omega⟩
  rw [abA,awe _ hN _ _ _ _ (by omega) hc (by simp)]
  have := ih k (i + 1) (by omega) (by omega) (by omega)
  rw [List.range_succ,List.map_append] at this
  exact this
noncomputable def nwT (N : Int) (x : EngV) : Option ((EngV × Unit) × Unit) := (agw (⟨26,0,⟨0,0,0,0⟩,0,0,0,0,0,0,0,0,0,0,0,[]⟩ : FrV)).bind fun r6 =>
  if (((x.m.length + ([r6.1.1] : List MaV).length : Nat)) : Int) < N then some ((({ x with m := x.m ++ ([r6.1.1]) } : EngV),()),()) else none
theorem ax9 (N : Int) (hN : 1000000 ≤ N) (x : EngV) (h : x.m.length ≤ 1000) : nwT N x = some ((({ x with m := x.m ++ [⟨[{ frK 26 with line := 1 }],false,0,0⟩] } : EngV),()),()) := by
 have hm : agw (⟨26,0,⟨0,0,0,0⟩,0,0,0,0,0,0,0,0,0,0,0,[]⟩ : FrV) = some (((⟨[{ frK 26 with line := 1 }],false,0,0⟩ : MaV),()),()) := arE _ (show (26 : Int) ≠ 22 by decide)
 have a2 : (((x.m.length + ([⟨[{ frK 26 with line := 1 }],false,0,0⟩] : List MaV).length : Nat)) : Int) < N := by rw [List.length_singleton]; omega
 unfold nwT
 rw [hm]
 simp only [Option.bind_some]
 rw [if_pos a2]
theorem awh (c : Cfg) : aoo c = (aps c).bind fun r1 =>(lpF (nwF 100000000000 c) 18446744073709551616 (0,(⟨r1.1.1,[],0,[],⟨0,0,0,0⟩⟩ : EngV),())).bind fun z3 =>nwT 100000000000 z3.2.1 := by kernel_rfl
theorem ayc {c : Cfg} (hc : CfgOk c) : aoo c = some ((axe c,()),()) := by
 have w1 := hc.w1
 have w2 := hc.w2
 have h1 : (aps c) = some ((au4 c,()),()) := atC hc
 have this : lpF (nwF 100000000000 c) 18446744073709551616 (0,(⟨au4 c,[],0,[],⟨0,0,0,0⟩⟩ : EngV),()) = some (c.workers,(⟨au4 c,(List.range c.workers.toNat).map (fun w =>⟨[adW c w],false,0,0⟩),0,[],⟨0,0,0,0⟩⟩ : EngV),()) := 
  awd (N := 100000000000) (by decide) hc ⟨au4 c,[],0,[],⟨0,0,0,0⟩⟩ c.workers.toNat 18446744073709551616 0 (by omega) (by omega) (by omega)
 have h2 : nwT 100000000000 (⟨au4 c,(List.range c.workers.toNat).map (fun w =>⟨[adW c w],false,0,0⟩),0,[],⟨0,0,0,0⟩⟩ : EngV) = some ((axe c,()),()) := ax9 _ (by decide) _ (by simp; omega)
 refine (awh c).trans ?_
 generalize 100000000000 = N at this h2 ⊢
 rw [h1,Option.bind_some]
 dsimp only
 rw [this,Option.bind_some]
 exact h2
theorem awi {c : Cfg} (hc : CfgOk c) : EngP 1 (axe c) := by
 have w1 := hc.w1
 have w2 := hc.w2
 have t1 := hc.t1
 have t2 := hc.t2
 refine ⟨⟨hc,⟨by simp [axe,au4]; omega,fun r hr =>?_⟩,⟨Nat.zero_le _,fun e he =>by cases he⟩,rg0,rg0⟩,fun y hy =>?_,by simp [axe],by simp [axe]; omega,Nat.zero_le _,Nat.zero_le _,List.Pairwise.nil,fun s hs =>(by cases hs),⟨Int.le_refl 0,by show (0 : Int) ≤ 1; decide⟩⟩
 ·rw [(List.mem_replicate.1 hr).2]
  exact ⟨Nat.zero_le _,fun x hx =>by cases hx⟩
 ·rcases List.mem_append.1 hy with hy | hy
  ·obtain ⟨w,hw,rfl⟩ := List.mem_map.1 hy
   rw [List.mem_range] at hw
   have hw2 : Rg (w : Int) := aab (by omega)
   have hw3 : Rg (Int.tmod (w : Int) c.tasks) := akd t1 (by omega)
   refine .inr ⟨adW c w,[],rfl,?_,acx (by show (25 : Int) ≠ 24; decide) (by show (25 : Int) ≠ 26; decide) (by show (25 : Int) ≠ 21; decide),trivial,fun p hp =>by cases hp⟩
   constructor <;> (try dsimp only [adW,frK]) <;> first | exact hw2 | exact hw3 | exact rg0 | exact Nat.zero_le _ | (intro x hx; cases hx; done) | decide
  ·rw [List.mem_singleton] at hy
   subst hy
   refine .inr ⟨{ frK 26 with line := 1 },[],rfl,?_,⟨fun e =>(by cases e),fun _ =>⟨Int.le_refl 0,by show (0 : Int) ≤ (c.subs.length : Int); omega⟩,fun e =>by cases e⟩,trivial,fun p hp =>by cases hp⟩
   constructor <;> (try dsimp only [frK]) <;> first | exact rg0 | exact Nat.zero_le _ | (intro x hx; cases hx; done) | decide
end
section
open Go Go.RowKit
set_option maxRecDepth 100000
variable [Tb]
noncomputable def ant (m : Int) : Option ((EntV × Unit) × (Unit)) :=
 some (((⟨0,m⟩ : EntV),()),())
noncomputable abbrev ans : Con SR1 := ⟨32,[.sh sI_],[.val 5],fun x =>ant x.1⟩
theorem aoH : CO Tryz.prog ans := aaC aaB Tryz.func32 [] trivial [] trivial (fun _ =>[]) [] fun x =>by kernel_rfl
noncomputable def ad1 (l : List Int) (i : Int) (n : Int) : Option ((Int × Unit) × (Unit)) :=
 if ((l.length : Nat) : Int) = 0 then
  some ((0,()),())
 else
 if ((l.length : Nat) : Int) ≠ 0 then
  if 0 ≤ (Int.tmod i ((l.length : Nat) : Int)) ∧ (Int.tmod i ((l.length : Nat) : Int)) < ((l.length : Nat) : Int) then
   if ((l.length : Nat) : Int) ≠ 0 then
   if (wi (1 + (Int.tmod (wi (Int.tdiv i ((l.length : Nat) : Int))) 7))) ≠ 0 then
   (agF (wi (Int.tdiv (aae l (Int.tmod i ((l.length : Nat) : Int))) (wi (1 + (Int.tmod (wi (Int.tdiv i ((l.length : Nat) : Int))) 7))))) n).bind fun r1 =>
   some ((r1.1.1,()),())
   else none
   else none
  else none
 else none
noncomputable abbrev aiP : Con SR1 := ⟨13,[.sh (.ro 1),.sh sI_,.sh sI_],[.sh sI_],fun x =>ad1 x.1 x.2.1 x.2.2.1⟩
theorem ajT : CO Tryz.prog aiP := aaC aaB Tryz.func13 [afy] ⟨ae8,trivial⟩ [] trivial (fun _ =>[]) [] fun x =>by kernel_rfl
noncomputable def ahx (l : List EntV) (e : EntV) (at_ : Int) : Option ((List EntV × Unit) × (Unit)) :=
 if 0 ≤ at_ ∧ at_ ≤ ((l.length : Nat) : Int) then
  if (((([] : List EntV).length + (l.take (at_ : Int).toNat).length : Nat)) : Int) < 1000000000000 then
   if ((((([]) ++ (l.take (at_ : Int).toNat)).length + ([e] : List EntV).length : Nat)) : Int) < 1000000000000 then
   if 0 ≤ at_ ∧ at_ ≤ ((l.length : Nat) : Int) then
   if (((((([]) ++ (l.take (at_ : Int).toNat)) ++ ([e])).length + (l.drop (at_ : Int).toNat).length : Nat)) : Int) < 1000000000000 then
   some ((((([]) ++ (l.take (at_ : Int).toNat)) ++ ([e])) ++ (l.drop (at_ : Int).toNat),()),())
   else none
   else none
   else none
  else none
 else none
noncomputable abbrev amf : Con SR1 := ⟨34,[.sh (.ro 5),.val 5,.sh sI_],[.sh (.row 5)],fun x =>ahx x.1 x.2.1 x.2.2.1⟩
theorem apQ : CO Tryz.prog amf := aaC aaB Tryz.func34 [] trivial [] trivial (fun _ =>[]) [] fun x =>by kernel_rfl
noncomputable def aoG (raw : List Int) (at_ : Int) (n : Int) : Option ((List EntV × Unit) × (Unit)) :=
 (lpF (σ := List EntV × Int × Unit) (β := List EntV × Int × Unit) (fun self3 x1 =>
  if x1.2.1 < n then
   (ant x1.2.1).bind fun r4 =>
   (ad1 raw (wi (at_ + x1.2.1)) (wi (x1.2.1 + 1))).bind fun r5 =>
   (ahx x1.1 r4.1.1 r5.1.1).bind fun r6 =>
   self3 (r6.1.1,wi (x1.2.1 + 1),())
  else
  some (x1.1,x1.2.1,())
 ) 18446744073709551616 ([],0,())).bind fun z2 =>
 (ad1 raw (wi (at_ + n)) (wi (n + 1))).bind fun r7 =>
 (ahx z2.1 (⟨1,0⟩ : EntV) r7.1.1).bind fun r8 =>
 (ad1 raw (wi ((wi (at_ + n)) + 1)) 3).bind fun r9 =>
 (lpF (σ := List EntV × Int × Unit) (β := List EntV × Int × Unit) (fun self12 x10 =>
  if 0 < x10.2.1 then
   (ad1 raw (wi ((wi (at_ + n)) + x10.2.1)) n).bind fun r13 =>
   (ant r13.1.1).bind fun r14 =>
   (ad1 raw (wi (at_ + x10.2.1)) (wi (((x10.1.length : Nat) : Int) + 1))).bind fun r15 =>
   (ahx x10.1 r14.1.1 r15.1.1).bind fun r16 =>
   self12 (r16.1.1,wi (x10.2.1 - 1),())
  else
  some (x10.1,x10.2.1,())
 ) 18446744073709551616 (r8.1.1,r9.1.1,())).bind fun z11 =>
 some ((z11.1,()),())
noncomputable abbrev aoF : Con SR1 := ⟨20,[.sh (.ro 1),.sh sI_,.sh sI_],[.sh (.row 5)],fun x =>aoG x.1 x.2.1 x.2.2.1⟩
theorem arQ : CO Tryz.prog aoF := aaC aaB Tryz.func20 [ans,aiP,amf] ⟨aoH,ajT,apQ,trivial⟩ [] trivial (fun _ =>[]) [(3,.loop [.rg 7 (.row 5),.rg 8 sI_] 18446744073709551616 0),(8,.loop [.rg 7 (.row 5),.rg 9 sI_] 18446744073709551616 2)] fun x =>by kernel_rfl
noncomputable def akS (c : Cfg) : Option ((List EntV × Unit) × (Unit)) :=
 (lpF (σ := List EntV × Int × Unit) (β := List EntV × Int × Unit) (fun self3 x1 =>
  if x1.2.1 < (wi (40 * ((c.subs.length : Nat) : Int))) then
   (ant c.workers).bind fun r4 =>
   if (((x1.1.length + ([r4.1.1] : List EntV).length : Nat)) : Int) < 1000000000000 then
   self3 (x1.1 ++ ([r4.1.1]),wi (x1.2.1 + 1),())
   else none
  else
  some (x1.1,x1.2.1,())
 ) 18446744073709551616 ([],0,())).bind fun z2 =>
 some ((z2.1,()),())
noncomputable abbrev ame : Con SR1 := ⟨18,[.val 13],[.sh (.row 5)],fun x =>akS x.1⟩
theorem apP : CO Tryz.prog ame := aaC aaB Tryz.func18 [ans] ⟨aoH,trivial⟩ [] trivial (fun _ =>[]) [(3,.loop [.rg 3 (.row 5),.rg 4 sI_] 18446744073709551616 0)] fun x =>by kernel_rfl
noncomputable def aic (b : List Int) : Option ((List EntV × Unit) × (Unit)) :=
 (lpF (σ := List EntV × Int × Unit) (β := List EntV × Int × Unit) (fun self3 x1 =>
  if (wi (x1.2.1 + 1)) < ((b.length : Nat) : Int) then
   if ((x1.1.length : Nat) : Int) < 65536 then
   if 0 ≤ x1.2.1 ∧ x1.2.1 < ((b.length : Nat) : Int) then
   if 0 ≤ wi (x1.2.1 + 1) ∧ wi (x1.2.1 + 1) < ((b.length : Nat) : Int) then
   if (aeU b (wi (x1.2.1 + 1))) = (aeU b (wi (x1.2.1 + 1))) then
   if (aeU b x1.2.1) = (aeU b x1.2.1) then
   if (Int.tmod (wi (aeU b x1.2.1)) 4) = 1 then
   if (((x1.1.length + ([(⟨(Int.tmod (wi (aeU b x1.2.1)) 4),0⟩ : EntV)] : List EntV).length : Nat)) : Int) < 1000000000000 then
   self3 (x1.1 ++ ([(⟨(Int.tmod (wi (aeU b x1.2.1)) 4),0⟩ : EntV)]),wi (x1.2.1 + 2),())
   else none
   else
   if (Int.tmod (wi (aeU b x1.2.1)) 4) = 3 then
   if (((x1.1.length + ([(⟨(Int.tmod (wi (aeU b x1.2.1)) 4),0⟩ : EntV)] : List EntV).length : Nat)) : Int) < 1000000000000 then
   self3 (x1.1 ++ ([(⟨(Int.tmod (wi (aeU b x1.2.1)) 4),0⟩ : EntV)]),wi (x1.2.1 + 2),())
   else none
   else
   if (((x1.1.length + ([(⟨(Int.tmod (wi (aeU b x1.2.1)) 4),wi (aeU b (wi (x1.2.1 + 1)))⟩ : EntV)] : List EntV).length : Nat)) : Int) < 1000000000000 then
   self3 (x1.1 ++ ([(⟨(Int.tmod (wi (aeU b x1.2.1)) 4),wi (aeU b (wi (x1.2.1 + 1)))⟩ : EntV)]),wi (x1.2.1 + 2),())
   else none
   else none
   else none
   else none
   else none
   else
   some (x1.1,x1.2.1,())
  else
  some (x1.1,x1.2.1,())
 ) 18446744073709551616 ([],0,())).bind fun z2 =>
 some ((z2.1,()),())
noncomputable abbrev ajM : Con SR1 := ⟨33,[.sh (.ro 17)],[.sh (.row 5)],fun x =>aic x.1⟩
theorem ane : CO Tryz.prog ajM := aaC aaB Tryz.func33 [] trivial [] trivial (fun _ =>[]) [(3,.loop [.rg 3 (.row 5),.rg 4 sI_] 18446744073709551616 0)] fun x =>by kernel_rfl
noncomputable def akR (b : List Int) (n : Int) : Option ((List EntV × Unit) × (Unit)) :=
 (aic b).bind fun r1 =>
 if n < ((r1.1.1.length : Nat) : Int) then
  if 0 ≤ n ∧ n ≤ ((r1.1.1.length : Nat) : Int) then
   some ((r1.1.1.take (n : Int).toNat,()),())
  else none
 else
 some ((r1.1.1,()),())
noncomputable abbrev amd : Con SR1 := ⟨19,[.sh (.ro 17),.sh sI_],[.sh (.row 5)],fun x =>akR x.1 x.2.1⟩
theorem apO : CO Tryz.prog amd := aaC aaB Tryz.func19 [ajM] ⟨ane,trivial⟩ [] trivial (fun _ =>[]) [] fun x =>by kernel_rfl
end
section
open Go
theorem apb (b : List Int) (l : List (List Int)) (hl : l.length ≤ 1000000) : aa0 (aoE b l) fun o =>o.1.1 = true → b.length ≤ 400 ∧ ∀ x ∈ l,x.length ≤ 400 := by
 unfold aoE
 refine aa0.bind (P := fun z =>(∀ o,z = .inr o → o.1.1 = false) ∧ (∀ y,z = .inl y → ∀ x ∈ l,x.length ≤ 400)) (acl (fun x =>0 ≤ x.1 ∧ x.1 ≤ (l.length : Int) ∧ ∀ i : Nat,(i : Int) < x.1 → ∀ y,l[i]? = some y → y.length ≤ 400) (fun x =>((l.length : Int) - x.1).toNat) (fun self x ⟨q0,q1,q2⟩ ih =>?_) _ _ ⟨Int.le_refl 0,by show (0 : Int) ≤ (l.length : Int); omega,fun i hi =>by omega⟩ (by show ((l.length : Int) - 0).toNat < _; omega)) fun z hz =>?_
 rotate_left
 ·have e2 : wi (x.1 + 1) = x.1 + 1 := aa7 (aab (by omega))
  rw [e2]
  refine aa0.ite (fun hlt =>.guard ⟨q0,hlt⟩ fun _ =>aa0.ite (fun _ =>.some_ ⟨fun o e =>(by cases e; rfl),fun y e =>(by cases e)⟩) fun h4 =>ih _ ⟨by show 0 ≤ x.1 + 1; omega,by show x.1 + 1 ≤ (l.length : Int); omega,fun i hi y hy =>?_⟩ (by show ((l.length : Int) - (x.1 + 1)).toNat < ((l.length : Int) - x.1).toNat; omega)) fun hlt =>.some_ ⟨fun o e =>(by cases e),fun y e x' hx' =>?_⟩
  ·by_cases hi2 : (i : Int) < x.1
   ·exact q2 i hi2 y hy
   ·have hi3 : i = x.1.toNat := by have : (i : Int) < x.1 + 1 := hi; omega
    have h5 := abZ (d := ([] : List Int)) (xs := l) (i := x.1) ⟨q0,hlt⟩
    rw [hi3,h5] at hy
    cases hy
    omega
  ·obtain ⟨i,hi,rfl⟩ := List.getElem_of_mem hx'
   exact q2 i (by omega) _ (List.getElem?_eq_getElem hi)
 ·rcases z with y | o
  ·refine .some_ fun e =>⟨?_,hz.2 y rfl⟩
   have : ((b.length : Nat) : Int) ≤ 400 := of_decide_eq_true e
   omega
  ·exact .some_ fun e =>by rw [hz.1 o rfl] at e; cases e
structure DecOk (c : Cfg) : Prop where
 w : 1 ≤ c.workers ∧ c.workers ≤ 4
 l : 1 ≤ c.levels ∧ c.levels ≤ 4
 k : 1 ≤ c.classes ∧ c.classes ≤ 3 ∧ c.classes ≤ c.levels
 t : 1 ≤ c.tasks ∧ c.tasks ≤ 12
 q : 1 ≤ c.deque ∧ c.deque ≤ 4
 h : 1 ≤ c.heap ∧ c.heap ≤ 4
 b : 1 ≤ c.batch ∧ c.batch ≤ c.deque
 a : 0 ≤ c.age ∧ c.age ≤ 5
 p : 1 ≤ c.patience ∧ c.patience ≤ 8
 pn : 1 ≤ c.progs.length ∧ c.progs.length ≤ 4
 pl : ∀ x ∈ c.progs,x.length ≤ 5
 ps : ∀ x ∈ c.progs,∀ i ∈ x,(i.op = 0 ∧ 1 ≤ i.a ∧ i.a ≤ 4 ∧ i.b = 0) ∨ (i.op = 1 ∧ 0 ≤ i.a ∧ i.a < (c.progs.length : Int) ∧ 0 ≤ i.b ∧ i.b < c.levels) ∨ (i.op = 2 ∧ 0 ≤ i.a ∧ i.a ≤ 3 ∧ i.b = 0)
 sn : c.subs.length ≤ 5
 ss : ∀ s ∈ c.subs,(0 ≤ s.prog ∧ s.prog < (c.progs.length : Int)) ∧ (0 ≤ s.level ∧ s.level < c.levels) ∧ 0 ≤ s.deadline ∧ s.deadline ≤ 15
structure CodOk (N : Int) (r : CodV) : Prop where
 by_ : ∀ x ∈ r.inn,0 ≤ x ∧ x ≤ 255
 ln : r.inn.length ≤ 1000000
 at_ : 0 ≤ r.at_ ∧ r.at_ ≤ N
theorem abB {N : Int} {r : CodV} {k : Int} (h : CodOk N r) (hN : N ≤ 1000000) (h1 : 1 ≤ k) (h2 : k ≤ 1000) : aa0 (abm r k) fun o =>(0 ≤ o.1.1 ∧ o.1.1 < k) ∧ CodOk (N + 1) o.2.1 := by
 have ha := h.at_
 have e1 : wi (r.at_ + 1) = r.at_ + 1 := aa7 (aab (by omega))
 unfold abm
 rw [e1]
 refine aa0.ite (fun hlt =>.guard ⟨ha.1,hlt⟩ fun _ =>.guard (by omega) fun _ =>.some_ ⟨?_,h.by_,h.ln,by show 0 ≤ r.at_ + 1; omega,by show r.at_ + 1 ≤ N + 1; omega⟩) fun _ =>.some_ ⟨⟨Int.le_refl 0,by show (0 : Int) < k; omega⟩,h.by_,h.ln,by show 0 ≤ r.at_ + 1; omega,by show r.at_ + 1 ≤ N + 1; omega⟩
 have hb := h.by_ _ (ajr (d := dfR 17) (xs := r.inn) (i := r.at_) ⟨ha.1,hlt⟩)
 have e2 : wi (aeU r.inn r.at_) = aeU r.inn r.at_ := aa7 (aab (x := aeU r.inn r.at_) ⟨by have := hb.1; exact Int.le_trans (by decide) this,by have := hb.2; exact Int.le_trans this (by decide)⟩)
 rw [e2]
 exact aqm h1 hb.1
theorem CodOk.up {N M : Int} {r : CodV} (h : CodOk N r) (hl : N ≤ M) : CodOk M r := ⟨h.by_,h.ln,h.at_.1,by have := h.at_; omega⟩
def amI (n lv : Int) (i : Ins) : Prop := (i.op = 0 ∧ 1 ≤ i.a ∧ i.a ≤ 4 ∧ i.b = 0) ∨ (i.op = 1 ∧ 0 ≤ i.a ∧ i.a < n ∧ 0 ≤ i.b ∧ i.b < lv) ∨ (i.op = 2 ∧ 0 ≤ i.a ∧ i.a ≤ 3 ∧ i.b = 0)
def ayP (n lv : Int) (s : Sub) : Prop := (0 ≤ s.prog ∧ s.prog < n) ∧ (0 ≤ s.level ∧ s.level < lv) ∧ 0 ≤ s.deadline ∧ s.deadline ≤ 15
structure NumOk (c : Cfg) : Prop where
 w : 1 ≤ c.workers ∧ c.workers ≤ 4
 l : 1 ≤ c.levels ∧ c.levels ≤ 4
 k : 1 ≤ c.classes ∧ c.classes ≤ 3 ∧ c.classes ≤ c.levels
 t : 1 ≤ c.tasks ∧ c.tasks ≤ 12
 q : 1 ≤ c.deque ∧ c.deque ≤ 4
 h : 1 ≤ c.heap ∧ c.heap ≤ 4
 b : 1 ≤ c.batch ∧ c.batch ≤ c.deque
 a : 0 ≤ c.age ∧ c.age ≤ 5
 p : 1 ≤ c.patience ∧ c.patience ≤ 8
theorem w1p {x : Int} (h : 0 ≤ x) (h2 : x ≤ 1000000) : wi (1 + x) = 1 + x := aa7 (aab (by omega))
theorem anB {b : List Int} (hb : ∀ x ∈ b,0 ≤ x ∧ x ≤ 255) (hl : b.length ≤ 1000000) : aa0 (aib b) fun o =>DecOk o.1.1 := by
 unfold aib
 refine (abB (N := 0) (k := 4) ⟨hb,hl,Int.le_refl 0,Int.le_refl 0⟩ (by decide) (by decide) (by decide)).bind fun r1 h1 =>?_
 refine (abB (k := 4) h1.2 (by decide) (by decide) (by decide)).bind fun r2 h2 =>?_
 have w1 := w1p h1.1.1 (by omega)
 have w2 := w1p h2.1.1 (by omega)
 rw [w1,w2]
 refine (abB h2.2 (by decide) (by split <;> omega) (by split <;> omega)).bind fun r3 h3 =>?_
 refine (abB (k := 12) h3.2 (by decide) (by decide) (by decide)).bind fun r4 h4 =>?_
 refine (abB (k := 4) h4.2 (by decide) (by decide) (by decide)).bind fun r5 h5 =>?_
 refine (abB (k := 4) h5.2 (by decide) (by decide) (by decide)).bind fun r6 h6 =>?_
 have h3' : r3.1.1 < 3 ∧ r3.1.1 < 1 + r2.1.1 := by
  have := h3.1.2
  split at this <;> omega
 have w3 := w1p h3.1.1 (by omega)
 have w4 := w1p h4.1.1 (by omega)
 have w5 := w1p h5.1.1 (by omega)
 have w6 := w1p h6.1.1 (by omega)
 rw [w3,w4,w5,w6]
 refine (abB h6.2 (by decide) (by omega) (by omega)).bind fun r7 h7 =>?_
 refine (abB (k := 6) h7.2 (by decide) (by decide) (by decide)).bind fun r8 h8 =>?_
 refine (abB (k := 8) h8.2 (by decide) (by decide) (by decide)).bind fun r9 h9 =>?_
 refine (abB (k := 4) h9.2 (by decide) (by decide) (by decide)).bind fun r10 h10 =>?_
 have w7 := w1p h7.1.1 (by omega)
 have w9 := w1p h9.1.1 (by omega)
 have w10 := w1p h10.1.1 (by omega)
 rw [w7,w9,w10]
 refine aa0.bind (P := fun z =>CodOk 1000 z.2.1 ∧ NumOk z.2.2.1 ∧ z.2.2.1.levels = 1 + r2.1.1 ∧ (z.2.2.1.progs.length : Int) = 1 + r10.1.1 ∧ (∀ p ∈ z.2.2.1.progs,p.length ≤ 5 ∧ ∀ i ∈ p,amI (1 + r10.1.1) (1 + r2.1.1) i) ∧ z.2.2.1.subs = [])
  (acl (fun x =>0 ≤ x.1 ∧ x.1 ≤ 1 + r10.1.1 ∧ CodOk (10 + 30 * x.1) x.2.1 ∧ NumOk x.2.2.1 ∧ x.2.2.1.levels = 1 + r2.1.1 ∧ (x.2.2.1.progs.length : Int) = x.1 ∧ (∀ p ∈ x.2.2.1.progs,p.length ≤ 5 ∧ ∀ i ∈ p,amI (1 + r10.1.1) (1 + r2.1.1) i) ∧ x.2.2.1.subs = [])
   (fun x =>(1 + r10.1.1 - x.1).toNat) (fun self x ⟨q0,q1,q2,q3,q4,q5,q6,q7⟩ ih =>?step) _ _ ⟨Int.le_refl 0,by show (0 : Int) ≤ 1 + r10.1.1; omega,h10.2,?num,rfl,rfl,fun p hp =>(by cases hp),rfl⟩ (by show (1 + r10.1.1 - 0).toNat < _; omega)) fun z hz =>?cont
 case step =>
  have f1 : wi (x.1 + 1) = x.1 + 1 := aa7 (aab (by omega))
  refine aa0.ite (fun hlt =>?_) fun hlt =>.some_ ⟨q2.up (by omega),q3,q4,by show (x.2.2.1.progs.length : Int) = _; omega,q6,q7⟩
  have hlen : (x.2.2.1.progs.length : Int) < 10 := by omega
  rw [f1]
  refine (abB (k := 6) q2 (by omega) (by decide) (by decide)).bind fun r14 h14 =>?_
  refine aa0.bind (P := fun z =>z.1.length ≤ 5 ∧ (∀ i ∈ z.1,amI (1 + r10.1.1) (1 + r2.1.1) i) ∧ CodOk (10 + 30 * x.1 + 26) z.2.2.1)
   (acl (fun y =>0 ≤ y.2.1 ∧ (y.1.length : Int) + y.2.1 = r14.1.1 ∧ CodOk (10 + 30 * x.1 + 1 + 5 * (r14.1.1 - y.2.1)) y.2.2.1 ∧ ∀ i ∈ y.1,amI (1 + r10.1.1) (1 + r2.1.1) i)
    (fun y =>y.2.1.toNat) (fun self y ⟨p0,p1,p2,p3⟩ ih =>?_) _ _ ⟨h14.1.1,by show ((0 : Nat) : Int) + r14.1.1 = _; omega,h14.2.up (by show 10 + 30 * x.1 + 1 ≤ 10 + 30 * x.1 + 1 + 5 * (r14.1.1 - r14.1.1); omega),fun i hi =>(by cases hi)⟩ (by show r14.1.1.toNat < _; omega)) fun z hz =>?_
  ·refine .guard (by show (((x.2.2.1.progs.length + 1 : Nat)) : Int) < _; omega) fun _ =>ih _ ⟨by show 0 ≤ x.1 + 1; omega,by show x.1 + 1 ≤ _; omega,hz.2.2.up (by show 10 + 30 * x.1 + 26 ≤ 10 + 30 * (x.1 + 1); omega),⟨q3.w,q3.l,q3.k,q3.t,q3.q,q3.h,q3.b,q3.a,q3.p⟩,q4,?_,?_,q7⟩ ?_
   ·show (((x.2.2.1.progs ++ [z.1]).length : Nat) : Int) = x.1 + 1
    rw [List.length_append,List.length_singleton]; omega
   ·intro p hp
    rcases List.mem_append.1 hp with hp | hp
    ·exact q6 p hp
    ·rw [List.mem_singleton] at hp; subst hp; exact ⟨hz.1,hz.2.1⟩
   ·show (1 + r10.1.1 - (x.1 + 1)).toNat < (1 + r10.1.1 - x.1).toNat
    omega
  ·have f2 : wi (y.2.1 - 1) = y.2.1 - 1 := aa7 (aab (by omega))
   have hyl : y.1.length ≤ 5 := by omega
   refine aa0.ite (fun hlt2 =>?_) fun hlt2 =>.some_ ⟨hyl,p3,p2.up (by omega)⟩
   rw [f2,q4]
   have nx : ∀ (u : Ins) (r : CodV),amI (1 + r10.1.1) (1 + r2.1.1) u → CodOk (10 + 30 * x.1 + 1 + 5 * (r14.1.1 - (y.2.1 - 1))) r → aa0 (if (((y.1.length + ([u] : List Ins).length : Nat)) : Int) < 1000000000000 then self (y.1 ++ [u],y.2.1 - 1,r,()) else none) fun z =>z.1.length ≤ 5 ∧ (∀ i ∈ z.1,amI (1 + r10.1.1) (1 + r2.1.1) i) ∧ CodOk (10 + 30 * x.1 + 26) z.2.2.1 := fun u r hu hr =>
    .guard (by show (((y.1.length + 1 : Nat)) : Int) < _; omega) fun _ =>ih _ ⟨by show 0 ≤ y.2.1 - 1; omega,by
     show (((y.1 ++ [u]).length : Nat) : Int) + (y.2.1 - 1) = _
     rw [List.length_append,List.length_singleton]; omega,hr,fun i hi =>by
     rcases List.mem_append.1 hi with hi | hi
     ·exact p3 i hi
     ·rw [List.mem_singleton] at hi; subst hi; exact hu⟩ (by show (y.2.1 - 1).toNat < y.2.1.toNat; omega)
   refine (abB (k := 3) p2 (by omega) (by decide) (by decide)).bind fun r18 h18 =>?_
   refine aa0.ite (fun e0 =>?_) fun e0 =>aa0.ite (fun e1 =>?_) fun e1 =>?_
   ·refine (abB (k := 4) h18.2 (by omega) (by decide) (by decide)).bind fun r19 h19 =>?_
    rw [w1p h19.1.1 (by omega)]
    exact nx _ _ (.inl ⟨e0,by show 1 ≤ 1 + r19.1.1; omega,by show 1 + r19.1.1 ≤ 4; omega,rfl⟩) (h19.2.up (by omega))
   ·refine (abB (k := 1 + r10.1.1) h18.2 (by omega) (by omega) (by omega)).bind fun r20 h20 =>?_
    refine (abB (k := 1 + r2.1.1) h20.2 (by omega) (by omega) (by omega)).bind fun r21 h21 =>?_
    exact nx _ _ (.inr (.inl ⟨e1,h20.1.1,h20.1.2,h21.1.1,h21.1.2⟩)) (h21.2.up (by omega))
   ·refine (abB (k := 4) h18.2 (by omega) (by decide) (by decide)).bind fun r22 h22 =>?_
    exact nx _ _ (.inr (.inr ⟨by show r18.1.1 = 2; omega,h22.1.1,by show r22.1.1 ≤ 3; omega,rfl⟩)) (h22.2.up (by omega))
 case num =>
  refine ⟨?_,?_,?_,?_,?_,?_,?_,?_,?_⟩
  ·exact ⟨by show 1 ≤ 1 + r1.1.1; omega,by show 1 + r1.1.1 ≤ 4; omega⟩
  ·exact ⟨by show 1 ≤ 1 + r2.1.1; omega,by show 1 + r2.1.1 ≤ 4; omega⟩
  ·exact ⟨by show 1 ≤ 1 + r3.1.1; omega,by show 1 + r3.1.1 ≤ 3; omega,by show 1 + r3.1.1 ≤ 1 + r2.1.1; omega⟩
  ·exact ⟨by show 1 ≤ 1 + r4.1.1; omega,by show 1 + r4.1.1 ≤ 12; omega⟩
  ·exact ⟨by show 1 ≤ 1 + r5.1.1; omega,by show 1 + r5.1.1 ≤ 4; omega⟩
  ·exact ⟨by show 1 ≤ 1 + r6.1.1; omega,by show 1 + r6.1.1 ≤ 4; omega⟩
  ·exact ⟨by show 1 ≤ 1 + r7.1.1; omega,by show 1 + r7.1.1 ≤ 1 + r5.1.1; omega⟩
  ·exact ⟨h8.1.1,by show r8.1.1 ≤ 5; omega⟩
  ·exact ⟨by show 1 ≤ 1 + r9.1.1; omega,by show 1 + r9.1.1 ≤ 8; omega⟩
 case cont =>
  obtain ⟨g1,g2,g3,g4,g5,g6⟩ := hz
  refine (abB (k := 6) g1 (by decide) (by decide) (by decide)).bind fun r23 h23 =>?_
  refine aa0.bind (P := fun y =>DecOk y.2.2.1)
   (acl (fun y =>0 ≤ y.1 ∧ (y.2.2.1.subs.length : Int) + y.1 = r23.1.1 ∧ CodOk (1001 + 5 * (r23.1.1 - y.1)) y.2.1 ∧ NumOk y.2.2.1 ∧ y.2.2.1.levels = 1 + r2.1.1 ∧ (y.2.2.1.progs.length : Int) = 1 + r10.1.1 ∧ (∀ p ∈ y.2.2.1.progs,p.length ≤ 5 ∧ ∀ i ∈ p,amI (1 + r10.1.1) (1 + r2.1.1) i) ∧ ∀ s ∈ y.2.2.1.subs,ayP (1 + r10.1.1) (1 + r2.1.1) s)
    (fun y =>y.1.toNat) (fun self y ⟨p0,p1,p2,p3,p4,p5,p6,p7⟩ ih =>?_) _ _ ⟨h23.1.1,by show ((z.2.2.1.subs.length : Nat) : Int) + r23.1.1 = r23.1.1; rw [g6]; show ((0 : Nat) : Int) + r23.1.1 = r23.1.1; omega,h23.2.up (by show (1001 : Int) ≤ 1001 + 5 * (r23.1.1 - r23.1.1); omega),g2,g3,g4,g5,fun s hs =>by
     have hs2 : s ∈ z.2.2.1.subs := hs
     rw [g6] at hs2; cases hs2⟩ (by show r23.1.1.toNat < _; omega)) fun y hy =>.some_ hy
  have f2 : wi (y.1 - 1) = y.1 - 1 := aa7 (aab (by omega))
  have hyl : y.2.2.1.subs.length ≤ 5 := by omega
  refine aa0.ite (fun hlt =>?_) fun hlt =>.some_ ⟨p3.w,p3.l,p3.k,p3.t,p3.q,p3.h,p3.b,p3.a,p3.p,by show 1 ≤ y.2.2.1.progs.length ∧ y.2.2.1.progs.length ≤ 4; omega,fun x hx =>(p6 x hx).1,fun x hx i hi =>by
   have := (p6 x hx).2 i hi
   rw [p5,p4]; exact this,hyl,fun s hs =>by
   have := p7 s hs
   rw [p5,p4]; exact this⟩
  rw [f2,p4]
  refine (abB (k := 1 + r10.1.1) p2 (by omega) (by omega) (by omega)).bind fun r27 h27 =>?_
  refine (abB (k := 1 + r2.1.1) h27.2 (by omega) (by omega) (by omega)).bind fun r28 h28 =>?_
  refine (abB (k := 16) h28.2 (by omega) (by omega) (by omega)).bind fun r29 h29 =>?_
  refine .guard (by show (((y.2.2.1.subs.length + 1 : Nat)) : Int) < _; omega) fun _ =>ih _ ⟨by show 0 ≤ y.1 - 1; omega,?_,h29.2.up (by show 1001 + 5 * (r23.1.1 - y.1) + 1 + 1 + 1 ≤ 1001 + 5 * (r23.1.1 - (y.1 - 1)); omega),⟨p3.w,p3.l,p3.k,p3.t,p3.q,p3.h,p3.b,p3.a,p3.p⟩,p4,p5,p6,?_⟩ (by show (y.1 - 1).toNat < y.1.toNat; omega)
  ·show (((y.2.2.1.subs ++ [_]).length : Nat) : Int) + (y.1 - 1) = _
   rw [List.length_append,List.length_singleton]; omega
  ·intro s hs
   rcases List.mem_append.1 hs with hs | hs
   ·exact p7 s hs
   ·rw [List.mem_singleton] at hs; subst hs
    exact ⟨h27.1,h28.1,h29.1.1,by show r29.1.1 ≤ 15; omega⟩
theorem aa0.agr {α : Type} {x y : Option α} {P : α → Prop} (h1 : aa0 x P) (h2 : x = y) : aa0 (agr x y) P := by subst h2; rw [acT]; exact h1
theorem ano {l : List Int} {i n : Int} (h : l.length ≤ 1000000) (hi : 0 ≤ i) (hi2 : i ≤ 1000000000) : aa0 (ad1 l i n) fun o =>o.1.1 = abV (wi (Int.tdiv (aae l (Int.tmod i l.length)) (wi (1 + Int.tmod (wi (Int.tdiv i l.length)) 7)))) n ∨ (l = [] ∧ o.1.1 = 0) := by
 unfold ad1
 refine aa0.ite (fun h0 =>.some_ (.inr ⟨List.length_eq_zero_iff.1 (by omega),rfl⟩)) fun h0 =>?_
 have h1 := Int.tmod_nonneg (b := (l.length : Int)) (a := i) (by omega)
 have h2 := Int.tmod_lt_of_pos i (b := (l.length : Int)) (by omega)
 have h3 : 0 ≤ Int.tdiv i (l.length : Int) := Int.tdiv_nonneg hi (by omega)
 have h4 : Int.tdiv i (l.length : Int) ≤ i := Int.tdiv_le_self _ hi
 have h5 : wi (Int.tdiv i (l.length : Int)) = Int.tdiv i (l.length : Int) := aa7 (aab (by omega))
 have h6 := aqm (a := Int.tdiv i (l.length : Int)) (b := 7) (by omega) (by omega)
 have h7 : wi (1 + Int.tmod (wi (Int.tdiv i (l.length : Int))) 7) = 1 + Int.tmod (Int.tdiv i (l.length : Int)) 7 := by rw [h5]; exact aa7 (aab (by omega))
 refine .guard h0 fun _ =>.guard (by omega) fun _ =>.guard h0 fun _ =>.guard (by rw [h7]; omega) fun _ =>?_
 rw [aa2]
 exact .some_ (.inl rfl)
theorem aed {l : List Int} {i n : Int} (h : l.length ≤ 1000000) (hi : 0 ≤ i) (hi2 : i ≤ 1000000000) (h1 : 1 ≤ n) (h2 : n ≤ 1000000000) : aa0 (ad1 l i n) fun o =>0 ≤ o.1.1 ∧ o.1.1 < n := by
 refine (ano h hi hi2).mono fun o ho =>?_
 rcases ho with e | ⟨_,e⟩
 ·rw [e]; exact ak6 h1 (by omega)
 ·rw [e]; omega
theorem agi {l : List EntV} {v : EntV} {i : Int} (hl : l.length ≤ 1000000) (hi : 0 ≤ i ∧ i ≤ (l.length : Int)) (hv : Rg v.value) (hr : ∀ u ∈ l,Rg u.value) : aa0 (ahx l v i) fun o =>o.1.1.length = l.length + 1 ∧ ∀ u ∈ o.1.1,Rg u.value := by
 unfold ahx
 refine .guard hi fun _ =>.guard (by simp; omega) fun _ =>.guard (by simp; omega) fun _ =>.guard hi fun _ =>.guard (by simp; omega) fun _ =>.some_ ⟨by simp; omega,fun u hu =>?_⟩
 simp only [List.nil_append,List.mem_append,List.mem_singleton] at hu
 rcases hu with (hu | rfl) | hu
 ·exact hr u (List.mem_of_mem_take hu)
 ·exact hv
 ·exact hr u (List.mem_of_mem_drop hu)
def aqe (K : Nat) (l : List EntV) : Prop := l.length ≤ K ∧ ∀ v ∈ l,Rg v.value
theorem ape {raw : List Int} {at_ n : Int} (h : raw.length ≤ 1000000) (ha : 0 ≤ at_) (ha2 : at_ ≤ 1000000) (h1 : 1 ≤ n) (h2 : n ≤ 100) : aa0 (aoG raw at_ n) fun o =>aqe (n.toNat + 3) o.1.1 := by
 unfold aoG
 refine aa0.bind (P := fun z =>(z.1.length : Int) = n ∧ ∀ v ∈ z.1,Rg v.value) (acl (fun x =>0 ≤ x.2.1 ∧ x.2.1 ≤ n ∧ (x.1.length : Int) = x.2.1 ∧ ∀ v ∈ x.1,Rg v.value) (fun x =>(n - x.2.1).toNat) (fun self x ⟨q0,q1,q2,q3⟩ ih =>?_) _ _ ⟨Int.le_refl 0,by show (0 : Int) ≤ n; omega,rfl,fun v hv =>by cases hv⟩ (by show (n - 0).toNat < _; omega)) fun z hz =>?_
 rotate_left
 ·refine aa0.ite (fun hlt =>?_) fun hlt =>.some_ ⟨by show (x.1.length : Int) = n; omega,q3⟩
  have e1 : wi (at_ + x.2.1) = at_ + x.2.1 := aa7 (aab (by omega))
  have e2 : wi (x.2.1 + 1) = x.2.1 + 1 := aa7 (aab (by omega))
  rw [show ant x.2.1 = some (((⟨0,x.2.1⟩ : EntV),()),()) from rfl,Option.bind_some,e1,e2]
  refine (aed h (by omega) (by omega) (by omega) (by omega)).bind fun r hr =>?_
  refine (agi (by omega) ⟨hr.1,by omega⟩ (aab (x := x.2.1) (by omega)) q3).bind fun o ho =>?_
  exact ih _ ⟨by show 0 ≤ x.2.1 + 1; omega,by show x.2.1 + 1 ≤ n; omega,by show (o.1.1.length : Int) = x.2.1 + 1; omega,ho.2⟩ (by show (n - (x.2.1 + 1)).toNat < (n - x.2.1).toNat; omega)
 have e1 : wi (at_ + n) = at_ + n := aa7 (aab (by omega))
 have e2 : wi (n + 1) = n + 1 := aa7 (aab (by omega))
 have e3 : wi (at_ + n + 1) = at_ + n + 1 := aa7 (aab (by omega))
 rw [e1,e2,e3]
 refine (aed h (by omega) (by omega) (by omega) (by omega)).bind fun r7 hr7 =>?_
 refine (agi (by omega) ⟨hr7.1,by omega⟩ (aab (by decide)) hz.2).bind fun r8 hr8 =>?_
 refine (aed (n := 3) h (by omega) (by omega) (by decide) (by decide)).bind fun r9 hr9 =>?_
 refine aa0.bind (P := fun z =>aqe (n.toNat + 3) z.1) (acl (fun x =>0 ≤ x.2.1 ∧ x.2.1 ≤ 2 ∧ (x.1.length : Int) + x.2.1 ≤ n + 3 ∧ n + 1 ≤ (x.1.length : Int) ∧ ∀ v ∈ x.1,Rg v.value) (fun x =>x.2.1.toNat) (fun self x ⟨q0,q1,q2,q4,q3⟩ ih =>?_) _ _ ⟨hr9.1,by show r9.1.1 ≤ 2; omega,by show (r8.1.1.length : Int) + r9.1.1 ≤ n + 3; omega,by show n + 1 ≤ (r8.1.1.length : Int); omega,hr8.2⟩ (by show r9.1.1.toNat < _; omega)) fun z hz =>.some_ hz
 refine aa0.ite (fun hlt =>?_) fun hlt =>.some_ ⟨by show x.1.length ≤ n.toNat + 3; omega,q3⟩
 have f1 : wi (at_ + n + x.2.1) = at_ + n + x.2.1 := aa7 (aab (by omega))
 have f2 : wi (at_ + x.2.1) = at_ + x.2.1 := aa7 (aab (by omega))
 have f3 : wi ((x.1.length : Int) + 1) = (x.1.length : Int) + 1 := aa7 (aab (by omega))
 have f4 : wi (x.2.1 - 1) = x.2.1 - 1 := aa7 (aab (by omega))
 rw [f1,f2,f3,f4]
 refine (aed h (by omega) (by omega) (by omega) (by omega)).bind fun r13 hr13 =>?_
 rw [show ant r13.1.1 = some (((⟨0,r13.1.1⟩ : EntV),()),()) from rfl,Option.bind_some]
 refine (aed h (by omega) (by omega) (by omega) (by omega)).bind fun r15 hr15 =>?_
 refine (agi (by omega) ⟨hr15.1,by omega⟩ (aab (x := r13.1.1) (by omega)) q3).bind fun o ho =>?_
 exact ih _ ⟨by show 0 ≤ x.2.1 - 1; omega,by show x.2.1 - 1 ≤ 2; omega,by show (o.1.1.length : Int) + (x.2.1 - 1) ≤ n + 3; omega,by show n + 1 ≤ (o.1.1.length : Int); omega,ho.2⟩ (by show (x.2.1 - 1).toNat < x.2.1.toNat; omega)
theorem av0 {b : List Int} (hb : b.length ≤ 1000000) : aa0 (aic b) fun o =>aqe 65536 o.1.1 := by
 unfold aic
 refine aa0.bind (P := fun z =>aqe 65536 z.1) (acl (fun x =>0 ≤ x.2.1 ∧ x.2.1 ≤ (b.length : Int) + 2 ∧ x.1.length ≤ 65536 ∧ ∀ v ∈ x.1,Rg v.value) (fun x =>((b.length : Int) + 2 - x.2.1).toNat) (fun self x ⟨q0,q1,q2,q3⟩ ih =>?_) _ _ ⟨Int.le_refl 0,by show (0 : Int) ≤ (b.length : Int) + 2; omega,Nat.zero_le _,fun v hv =>by cases hv⟩ (by show ((b.length : Int) + 2 - 0).toNat < _; omega)) fun z hz =>.some_ hz
 have e1 : wi (x.2.1 + 1) = x.2.1 + 1 := aa7 (aab (by omega))
 have e2 : wi (x.2.1 + 2) = x.2.1 + 2 := aa7 (aab (by omega))
 rw [e1,e2]
 refine aa0.ite (fun h1 =>aa0.ite (fun h2 =>.guard (by omega) fun _ =>.guard (by omega) fun _ =>.guard rfl fun _ =>.guard rfl fun _ =>?_) fun _ =>.some_ ⟨q2,q3⟩) fun _ =>.some_ ⟨q2,q3⟩
 have nx : ∀ u : EntV,Rg u.value → aa0 (self (x.1 ++ [u],x.2.1 + 2,())) fun z =>aqe 65536 z.1 := fun u hu =>ih _ ⟨by show 0 ≤ x.2.1 + 2; omega,by show x.2.1 + 2 ≤ (b.length : Int) + 2; omega,by simp; omega,fun v hv =>by
  rcases List.mem_append.1 hv with hv | hv
  ·exact q3 v hv
  ·rw [List.mem_singleton] at hv; subst hv; exact hu⟩ (by show ((b.length : Int) + 2 - (x.2.1 + 2)).toNat < ((b.length : Int) + 2 - x.2.1).toNat; omega)
 refine aa0.ite (fun _ =>.guard (by simp; omega) fun _ =>nx _ rg0) fun _ =>aa0.ite (fun _ =>.guard (by simp; omega) fun _ =>nx _ rg0) fun _ =>.guard (by simp; omega) fun _ =>nx _ (aan _)
theorem amV {b : List Int} {n : Int} (hb : b.length ≤ 1000000) (hn : 0 ≤ n) : aa0 (akR b n) fun o =>aqe n.toNat o.1.1 := by
 unfold akR
 refine (av0 hb).bind fun r hr =>aa0.ite (fun h =>.guard (by omega) fun _ =>.some_ ⟨by show (r.1.1.take n.toNat).length ≤ n.toNat; simp; omega,fun v hv =>hr.2 v (List.mem_of_mem_take hv)⟩) fun h =>.some_ ⟨by show r.1.1.length ≤ n.toNat; omega,hr.2⟩
theorem aug {lv np : Int} {i : Ins} (hl : lv ≤ 4) (h : amI np lv i) : agV lv np i = true := by
 unfold agV inB
 rcases h with ⟨h0,h1,h2,h3⟩ | ⟨h0,h1,h2,h3,h4⟩ | ⟨h0,h1,h2,h3⟩
 ·rw [if_pos h0]; simp only [Bool.and_eq_true,decide_eq_true_eq,beq_iff_eq]; omega
 ·rw [if_neg (by omega),if_pos h0]; simp only [Bool.and_eq_true,decide_eq_true_eq]; omega
 ·rw [if_neg (by omega),if_neg (by omega),if_pos h0]; simp only [Bool.and_eq_true,decide_eq_true_eq,beq_iff_eq]; omega
theorem al3 {lv np : Int} : ∀ ps : List (List Ins),(∀ p ∈ ps,p.length ≤ 5 ∧ ∀ i ∈ p,agV lv np i = true) → abh lv np ps = 0
 | [],_ =>rfl
 | p :: ps,h =>by
  have h1 := h p List.mem_cons_self
  unfold abh
  rw [if_neg (by omega),if_pos (List.all_eq_true.2 h1.2)]
  exact al3 ps fun q hq =>h q (List.mem_cons_of_mem _ hq)
theorem an3 {lv np : Int} : ∀ ss : List Sub,(∀ s ∈ ss,ayP np lv s) → ab2 lv np ss = 0
 | [],_ =>rfl
 | s :: ss,h =>by
  obtain ⟨h1,h2,h3⟩ := h s List.mem_cons_self
  have e : ago lv np s = 0 := by
   unfold ago inB
   rw [if_neg (by simp only [Bool.not_eq_true',Bool.and_eq_false_iff,decide_eq_false_iff_not]; omega),if_neg (by simp only [Bool.or_eq_true,Bool.not_eq_true',Bool.and_eq_false_iff,decide_eq_false_iff_not]; omega)]
  unfold ab2
  rw [if_pos e]
  exact an3 ss fun q hq =>h q (List.mem_cons_of_mem _ hq)
section
variable {c : Cfg}
theorem DecOk.err (h : DecOk c) : aeh c = 0 := by
 have hn : agP c = true := by
  have := h.w; have := h.l; have := h.k; have := h.t; have := h.q; have := h.h; have := h.b; have := h.a; have := h.p
  unfold agP inB
  rw [if_pos (by omega)]
  simp only [Bool.and_eq_true,decide_eq_true_eq]
  omega
 have hp : acm c = 0 := by
  have := h.pn
  unfold acm inB
  rw [if_neg (by simp only [Bool.not_eq_true',Bool.and_eq_false_iff,decide_eq_false_iff_not]; omega)]
  exact al3 _ fun p hp =>⟨h.pl p hp,fun i hi =>aug h.l.2 (h.ps p hp i hi)⟩
 have hs : adY c = 0 := by
  have := h.sn
  unfold adY
  rw [if_neg (by omega)]
  exact an3 _ fun s hs =>h.ss s hs
 unfold aeh
 rw [hn,hp,hs]; rfl
theorem DecOk.ok (h : DecOk c) : CfgOk c := by
 have := h.w; have := h.l; have := h.k; have := h.t; have := h.q
 refine ⟨by omega,by omega,by omega,by omega,by omega,by omega,by omega,by omega,by omega,by omega,by have := h.sn; omega,fun s hs =>?_,fun p hp x hx =>?_⟩
 ·obtain ⟨h1,h2,h3⟩ := h.ss s hs
  have := h.pn
  exact ⟨aab (by omega),aab (by omega),aab (by omega)⟩
 ·have := h.pn
  rcases h.ps p hp x hx with h0 | h0 | h0
  ·exact ⟨aab (by omega),aab (by omega),fun h1 =>absurd h0.1 h1⟩
  ·exact ⟨aab (by omega),aab (by omega),fun _ h1 =>absurd h0.1 h1⟩
  ·exact ⟨aab (by omega),aab (by omega),fun _ _ =>h0.2.1⟩
end
theorem anE {b : List Int} (hb : ∀ x ∈ b,0 ≤ x ∧ x ≤ 255) (hl : b.length ≤ 1000000) : aa0 (aiS b) fun o =>DecOk o.1.1 := by
 unfold aiS
 exact (anB hb hl).bind fun r h =>.some_ h
theorem aqe.take {K : Nat} {l : List EntV} (h : aqe K l) (n : Nat) : aqe K (l.take n) := ⟨by rw [List.length_take]; have := h.1; omega,fun v hv =>h.2 v (List.mem_of_mem_take hv)⟩
theorem akl {K : Nat} {x : EngV} (h : EngP K x) {l : List EntV} {m : Nat} (hl : aqe m l) (hK1 : 1 ≤ K) (hK : K + 5 * m ≤ 700000000) : aa0 (aiD x l) fun o =>EngP (K + 5 * m) o.2.1 ∧ o.2.1.e.c = x.e.c := by
 have h1 := hl.1
 obtain ⟨g1,g2,_,_⟩ := atp l K x h hl.2 hK1 (by omega)
 exact ⟨_,run_eq' h hl.2 hK1 (by omega),g1.le (by omega),g2⟩
theorem apL {c : Cfg} (hc : CfgOk c) : aa0 (akS c) fun o =>o.1.1.length = 40 * c.subs.length ∧ ∀ v ∈ o.1.1,Rg v.value := by
 have w1 := hc.w1
 have w2 := hc.w2
 have hs := hc.sl
 unfold akS
 have e0 : wi (40 * ((c.subs.length : Nat) : Int)) = 40 * ((c.subs.length : Nat) : Int) := aa7 (aab (by omega))
 rw [e0]
 refine aa0.bind (P := fun z =>z.1.length = 40 * c.subs.length ∧ ∀ v ∈ z.1,Rg v.value) (acl (fun x =>0 ≤ x.2.1 ∧ x.2.1 ≤ 40 * (c.subs.length : Int) ∧ (x.1.length : Int) = x.2.1 ∧ ∀ v ∈ x.1,Rg v.value) (fun x =>(40 * (c.subs.length : Int) - x.2.1).toNat) (fun self x ⟨q0,q1,q2,q3⟩ ih =>?_) _ _ ⟨Int.le_refl 0,by show (0 : Int) ≤ 40 * (c.subs.length : Int); omega,rfl,fun v hv =>by cases hv⟩ (by show (40 * (c.subs.length : Int) - 0).toNat < _; omega)) fun z hz =>.some_ hz
 refine aa0.ite (fun hlt =>?_) fun hlt =>.some_ ⟨by show x.1.length = 40 * c.subs.length; omega,q3⟩
 have e2 : wi (x.2.1 + 1) = x.2.1 + 1 := aa7 (aab (by omega))
 rw [show ant c.workers = some (((⟨0,c.workers⟩ : EntV),()),()) from rfl,Option.bind_some,e2]
 refine .guard (by simp; omega) fun _ =>ih _ ⟨by show 0 ≤ x.2.1 + 1; omega,by show x.2.1 + 1 ≤ 40 * (c.subs.length : Int); omega,by simp; omega,fun v hv =>?_⟩ (by show (40 * (c.subs.length : Int) - (x.2.1 + 1)).toNat < (40 * (c.subs.length : Int) - x.2.1).toNat; omega)
 rcases List.mem_append.1 hv with hv | hv
 ·exact q3 v hv
 ·rw [List.mem_singleton] at hv; subst hv; exact aab (by show -1000000000000 ≤ c.workers ∧ c.workers ≤ 1000000000000; omega)
end
end Go.Proofs.YtkmkhldmflebkaaGreat
