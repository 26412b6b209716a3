/- The machines of the reference,said plainly,2: probing,choosing,entering,going back,a step. No program occurs here. What the reference's functions answer is what was said plainly,2. What the reference's functions answer is what was said plainly,3. What the reference's functions answer is what was said plainly,4. -/
import Derived.Test.YtkmkhldmflebkaaGreatOzaj
import Derived.Test.YtkmkhldmflebkaaGreatOzal
set_option linter.all false
namespace Go.Proofs.YtkmkhldmflebkaaGreat
section
open Go
structure CfgOk (c : Cfg) : Prop where
 w1 : 1 ≤ c.workers
 w2 : c.workers ≤ 64
 l1 : 1 ≤ c.levels
 l2 : c.levels ≤ 64
 c1 : 1 ≤ c.classes
 c2 : c.classes ≤ 64
 t1 : 1 ≤ c.tasks
 t2 : c.tasks ≤ 65535
 q1 : 0 ≤ c.deque
 q2 : c.deque ≤ 65535
 sl : c.subs.length ≤ 1000
 sub : ∀ s ∈ c.subs,Rg s.level ∧ Rg s.deadline ∧ Rg s.prog
 ins : ∀ p ∈ c.progs,∀ x ∈ p,Rg x.a ∧ Rg x.b ∧ (x.op ≠ 0 → x.op ≠ 1 → 0 ≤ x.a)
def ajp (a : Int) : Nat → Int
 | 0 =>0
 | n + 1 =>if (n : Int) ≠ a then ajp a n + 1 else ajp a n
def arK (w a t : Int) : Nat → Int → Bool
 | 0,_ =>false
 | k + 1,i =>decide (Int.tmod (wi (t + i)) w ≠ a) || arK w a t k (i + 1)
def awp (w a t i : Int) : Bool := arK w a t (w - i).toNat i
def afZ (e : EnvV) (f : FrV) : FrV := if f.line = 1 then { f with line := 2,j := -1,n := -1,t := abV e.draw e.c.workers } else f
def acJ (e : EnvV) (f : FrV) : Int := if Int.tmod (wi (f.t + f.i)) e.c.workers = f.a then wi (f.i + 1) else f.i
def acB (e : EnvV) (f : FrV) : Int := Int.tmod (wi (f.t + acJ e f)) e.c.workers
def afa (e : EnvV) (f : FrV) : Int := agj (e.ld (abu e.c (acB e f)))
def ab0 (e : EnvV) (f : FrV) : FrV := if f.n < afa e f then { f with i := wi (acJ e f + 1),j := acB e f,n := afa e f } else { f with i := wi (acJ e f + 1) }
def ahU (e : EnvV) (f : FrV) : Lf :=
 if ajp f.a e.c.workers.toNat = 0 then fin 2 0 e f
 else if awp e.c.workers f.a f.t (wi (acJ e f + 1)) = true then go (e.lm (abu e.c (acB e f))) (ab0 e f)
 else if (ab0 e f).j < 0 then fin 2 0 (e.lm (abu e.c (acB e f))) (ab0 e f)
 else fin 1 (wi (wi ((ab0 e f).j * 64) + (ab0 e f).n)) (e.lm (abu e.c (acB e f))) (ab0 e f)
def ahV (e : EnvV) (f : FrV) : Lf := ahU e (afZ e f)
def adJ (e : EnvV) (f : FrV) : Lf :=
 if f.kind = 0 then ard e f
 else if f.kind = 1 then axJ e f
 else if f.kind = 2 then alu e f
 else if f.kind = 3 then fin 0 0 (e.ac 4 f.a (aiL f.b) 0) f
 else if f.kind = 4 then amx e f
 else if f.kind = 6 then
  if e.ld (abu e.c f.a) = 0 then fin 2 0 (e.lm (abu e.c f.a)) { f with u := e.ld (abu e.c f.a) } else go (e.lm (abu e.c f.a)) { f with line := 2,u := e.ld (abu e.c f.a),i := agj (e.ld (abu e.c f.a)) }
 else if f.kind = 7 then
  if e.hit 3 1 0 (wu (wi (f.a + 1))) = true then fin 1 0 (e.ac 3 1 0 (wu (wi (f.a + 1)))) f else go (e.ac 3 1 0 (wu (wi (f.a + 1)))) f
 else if f.kind = 8 then
  if e.hit 3 1 0 (wu (wi (f.a + 1))) = true then fin 1 0 (e.ac 3 1 0 (wu (wi (f.a + 1)))) f else fin 5 0 (e.ac 3 1 0 (wu (wi (f.a + 1)))) f
 else if f.kind = 9 then fin 0 0 (e.sm 1 0) f
 else if f.kind = 10 then aiU e f
 else if f.kind = 11 then air e f
 else if f.kind = 12 then ag7 e f
 else if f.kind = 13 then agK e f
 else if f.kind = 14 then aj1 e f
 else if f.kind = 15 then ai2 e f
 else if f.kind = 16 then alJ e f
 else if f.kind = 17 then aqf e f
 else if f.kind = 18 then als e f
 else if f.kind = 19 then alw e f
 else if f.kind = 20 then aqi e f
 else if f.kind = 21 then ahV e f
 else if f.kind = 22 then ams e f
 else if f.kind = 24 then avP e f
 else if f.kind = 26 then ahD e f
 else fin 4 0 e f
def ad3 (e : EnvV) (f : FrV) : FrV :=
 if f.line ≠ 1 then f
 else if ¬ abP e (aaQ f.l) then { f with line := 23 }
 else if (e.rc (aaQ f.l)).waiting ≠ -1 then { f with line := 2 }
 else if (e.rc (aaQ f.l)).pc < 0 ∨ ((e.prog (aaQ f.l)).length : Int) ≤ (e.rc (aaQ f.l)).pc then { f with line := 17 }
 else if (e.ins (aaQ f.l)).op = 0 then { f with line := 3 }
 else if (e.ins (aaQ f.l)).op = 1 then { f with line := 5 }
 else if (e.ins (aaQ f.l)).a < ((e.rc (aaQ f.l)).kids.length : Int) ∧ aae (e.rc (aaQ f.l)).kids (e.ins (aaQ f.l)).a ≠ -1 then { f with line := 10,j := aae (e.rc (aaQ f.l)).kids (e.ins (aaQ f.l)).a }
 else { f with line := 4 }
def frK (k : Int) : FrV := ⟨k,0,⟨0,0,0,0⟩,0,0,0,0,0,0,0,0,0,0,0,[]⟩
def axc (f : FrV) : Option FrV :=
 if f.line = 5 then some (frK 12)
 else if f.line = 6 then some { frK 13 with a := f.n,b := f.d }
 else if f.line = 7 then some { frK 5 with a := f.a,b := f.d,d := f.n }
 else if f.line = 8 then some { frK 20 with a := f.a,b := f.d }
 else if f.line = 9 ∨ f.line = 22 then some { frK 14 with a := f.a,b := f.n }
 else if f.line = 14 then some { frK 17 with a := f.a,b := f.j,d := f.t }
 else if f.line = 20 then some { frK 15 with a := f.a,b := f.n }
 else if f.line = 21 then some { frK 20 with a := f.a,b := f.t }
 else none
def amt (f : FrV) : Option FrV :=
 if f.line = 2 then some { frK 8 with a := f.a }
 else if f.line = 3 then some { frK 11 with a := f.a }
 else if f.line = 5 then some { frK 5 with a := f.a,b := f.t,d := f.n }
 else if f.line = 6 then some (frK 9)
 else if f.line = 7 then some { frK 20 with a := f.a,b := f.j }
 else none
def ael (e : EnvV) (f : FrV) : FrV := if f.line = 1 ∧ e.c.age = 0 then { f with line := 2 } else f
def akb (e : EnvV) (f : FrV) : FrV :=
 if f.line = 1 then { frK 18 with a := f.a,b := f.j }
 else if f.line = 2 then { frK 23 with a := f.a }
 else if f.line = 3 then { frK 22 with a := f.a,d := -1 }
 else if f.line = 4 then { frK 21 with a := f.a }
 else if f.line = 5 then { frK 2 with q := agJ e.c f.i f.d }
 else if f.line = 6 then { frK 14 with a := f.a,b := f.n }
 else if f.line = 7 then { frK 24 with a := f.a,b := f.n,l := [f.n] }
 else if f.line = 8 then { frK 19 with a := f.a }
 else { frK 4 with a := abu e.c f.i,b := f.d,q := agJ e.c f.i f.d }
def ai7 (e : EnvV) (f : FrV) : Option FrV :=
 if (e.c.subs.length : Int) ≤ f.i then none
 else if f.line = 1 then some { frK 7 with a := e.c.workers }
 else if f.line = 3 then some (frK 12)
 else if f.line = 6 then some { frK 10 with a := (e.sub f.i).deadline,b := f.n }
 else if f.line = 8 then some (frK 9)
 else if f.line = 9 then some { frK 20 with a := e.c.workers,b := (e.sub f.i).level }
 else none
def agW (e : EnvV) (f : FrV) : Option FrV × FrV :=
 if f.kind = 5 then
  if f.line = 1 then (some { frK 0 with q := agJ e.c f.a f.b,a := f.d },f) else (some { frK 3 with a := abu e.c f.a,b := f.b },f)
 else if f.kind = 6 then
  if f.line = 2 then (some { frK 1 with q := agJ e.c f.a f.i },f)
  else if f.line = 3 then (some { frK 4 with a := abu e.c f.a,b := f.i,q := agJ e.c f.a f.i },f)
  else (none,f)
 else if f.kind = 15 then
  if f.line = 4 then (some { frK 5 with a := f.a,b := f.t,d := f.b },f) else (none,f)
 else if f.kind = 17 then
  if f.line = 1 then
   if abP e f.b ∧ 0 ≤ f.d ∧ f.d < e.c.levels then (some { frK 16 with a := f.a,b := f.b,d := f.d },f) else (none,f)
  else if f.line = 3 then (some { frK 5 with a := f.a,b := f.d,d := f.b },f)
  else (none,f)
 else if f.kind = 18 then
  if f.line = 6 then (some { frK 5 with a := f.a,b := f.t,d := f.b },f) else (none,f)
 else if f.kind = 22 then (amt f,f)
 else if f.kind = 23 then
  if f.line = 1 then (some { frK 6 with a := f.a },f) else (some { frK 14 with a := f.a,b := f.n },f)
 else if f.kind = 24 then (axc (ad3 e f),ad3 e f)
 else if f.kind = 25 then (some (akb e (ael e f)),ael e f)
 else if f.kind = 26 then (ai7 e f,f)
 else (none,f)
def aqh (e : EnvV) (f : FrV) (code : Int) : Lf :=
 if f.line = 1 then (if code = 1 then go e { f with line := 2 } else go e { f with line := 4 })
 else if code = 3 then go (e.em 19 f.a f.b 0 f.d) { f with line := 4 } else go e { f with line := 4 }
def amu (e : EnvV) (f : FrV) (code value : Int) : Lf :=
 if f.line = 2 then (if code = 5 then fin 5 0 e f else go e { f with line := 3 })
 else if f.line = 3 then (if code = 2 then go e { f with line := 6,n := value } else go e { f with line := 4,n := value })
 else if f.line = 5 then
  if code = 3 then go e { f with line := 6,d := f.n }
  else if wi (f.i + 1) < e.c.batch then go e { f with line := 3,i := wi (f.i + 1),j := f.t } else go e { f with line := 6,i := wi (f.i + 1),j := f.t }
 else if f.line = 6 then
  if 0 < f.i then go e { f with line := 7 } else if 0 ≤ f.d then fin 1 f.d e f else fin 2 0 e f
 else if 0 ≤ f.d then fin 1 f.d e f else fin 0 f.i e f
def alr (e : EnvV) (f : FrV) (code value : Int) : Lf :=
 if f.line = 1 then (if code = 2 then fin 2 0 e f else go e { f with line := 2,n := value })
 else if code = 1 then fin 1 value e f else go e { f with line := 1 }
def agm (e : EnvV) (f : FrV) (code value : Int) : Lf :=
 if f.line = 1 then go e { f with line := 2,j := Int.tmod (wi (f.j + 1)) (if 1 < e.c.tasks then e.c.tasks else 1) }
 else if f.line = 2 then (if code = 1 then go e { f with line := 7,n := value } else go e { f with line := 3,n := value })
 else if f.line = 3 then
  if code = 1 then go e { f with line := 6,n := value }
  else if code = 0 then go e { f with line := 2,n := value }
  else if e.c.workers = 1 then go e { f with line := 8,n := value }
  else go e { f with line := 4,n := value }
 else if f.line = 4 then (if code = 1 then go e { f with line := 5,d := Int.tmod value 64,i := wi (Int.tdiv value 64) } else go e { f with line := 8,d := Int.tmod value 64,i := wi (Int.tdiv value 64) })
 else if f.line = 5 then
  if code = 1 then go (e.em 14 f.a value f.i f.d) { f with line := 6,n := value }
  else if code = 2 then go e { f with line := 9,n := value }
  else go e { f with line := 1,n := value }
 else if f.line = 6 then (if code = 1 then go e { f with line := 7 } else go e { f with line := 1 })
 else go e { f with line := 1 }
def ahA (e : EnvV) (f : FrV) : Lf :=
 if (e.c.subs.length : Int) ≤ wi (f.i + 1) then fin 0 0 e { f with line := 1,b := 0,i := wi (f.i + 1) } else go e { f with line := 1,b := 0,i := wi (f.i + 1) }
def ahW (prog parent : Int) : RecV := ⟨prog,parent,0,0,-1,[],false⟩
def ai8 (e : EnvV) (f : FrV) (code value : Int) : Lf :=
 if f.line = 1 then go e { f with line := 2 }
 else if f.line = 3 then
  if code = 3 then go (e.em 2 e.c.workers 0 f.i 2) { f with line := 8 } else go (e.put value (ahW (e.sub f.i).prog (-1))) { f with line := 4,n := value }
 else if f.line = 6 then
  if code = 0 then go (e.em 1 e.c.workers f.n f.i (e.sub f.i).level) { f with line := 7,b := 1 } else go e { f with line := 8 }
 else if f.line = 8 then (if f.b = 1 then go e { f with line := 9 } else ahA e f)
 else ahA e f
def ayj (r : RecV) (k : Int) : RecV := { r with pc := wi (r.pc + 1),kids := r.kids ++ [k] }
def axA (e : EnvV) (f : FrV) (code value : Int) : Lf :=
 if f.line = 5 then
  if code = 3 then go ((e.put (aaQ f.l) (ayj (e.rc (aaQ f.l)) (-1))).em 4 f.a (aaQ f.l) 0 0) { f with line := 1 }
  else go ((e.put (aaQ f.l) (ayj (e.rc (aaQ f.l)) value)).put value (ahW (e.ins (aaQ f.l)).a (aaQ f.l))) { f with line := 6,n := value,d := (e.ins (aaQ f.l)).b }
 else if f.line = 6 then go (e.em 3 f.a f.n (aaQ f.l) f.d) { f with line := 7 }
 else if f.line = 7 then (if code = 3 then go e { f with line := 9 } else go e { f with line := 8 })
 else if f.line = 8 then go e { f with line := 1 }
 else if f.line = 9 then (if code = 1 then go e { f with line := 1,l := f.l ++ [f.n] } else go e { f with line := 1 })
 else if f.line = 14 then acW (e.em 7 f.a (aaQ f.l) 0 f.t) f
 else if f.line = 20 then (if code = 3 then go e { f with line := 22,t := value } else go e { f with line := 21,t := value })
 else if f.line = 21 then acW e f
 else if f.line = 22 then (if code = 1 then go e { f with line := 1,l := f.l.dropLast ++ [f.n] } else acW e f)
 else go e f
def afR (e : EnvV) (f : FrV) (code value : Int) : Lf :=
 if f.kind = 5 then (if f.line = 2 ∨ code = 3 then fin code 0 e f else go e { f with line := 2 })
 else if f.kind = 6 then
  if f.line = 3 then go e { f with line := 1 } else if code = 1 then fin 1 value e f else go e { f with line := 3 }
 else if f.kind = 15 then fin code f.t e f
 else if f.kind = 17 then aqh e f code
 else if f.kind = 18 then (if code = 3 then fin 1 0 (e.em 19 f.a f.b 0 f.t) f else fin 1 0 e f)
 else if f.kind = 22 then amu e f code value
 else if f.kind = 23 then alr e f code value
 else if f.kind = 24 then axA e f code value
 else if f.kind = 25 then agm e f code value
 else if f.kind = 26 then ai8 e f code value
 else go e f
def adU (e : EnvV) : Nat → FrV → List FrV → FrV × List FrV
 | 0,top,ps =>(top,ps)
 | k + 1,top,ps =>match agW e top with
  | (none,f) =>(f,ps)
  | (some ch,f) =>adU e k { ch with line := 1 } (f :: ps)
def ajq : ResV → EnvV → FrV → List FrV → (Option ResV × EnvV × List FrV)
 | r,e,top,[] =>if r.done = true then (some r,e,[]) else (none,e,[top])
 | r,e,top,p :: ps =>if r.done = true then ajq (afR e p r.code r.value).1 (afR e p r.code r.value).2.1 (afR e p r.code r.value).2.2 ps else (none,e,top :: p :: ps)
def atd (e : EnvV) (top : FrV) (ps : List FrV) : Option ResV × EnvV × List FrV :=
 ajq (adJ e (adU e 8 top ps).1).1 (adJ e (adU e 8 top ps).1).2.1 (adJ e (adU e 8 top ps).1).2.2 (adU e 8 top ps).2
def ahe (e : EnvV) (m : MaV) : Bool × MaV × EnvV :=
 if m.over = true then (true,m,e)
 else match m.f.reverse with
  | [] =>(false,m,e)
  | top :: ps =>match atd e top ps with
   | (some r,e',_) =>(true,⟨[],true,r.code,r.value⟩,e')
   | (none,e',s) =>(false,{ m with f := s.reverse },e')
theorem anU {rs : List RecV} {t : Int} {r : RecV} (h : 0 ≤ t ∧ t < (rs.length : Int)) : aap (rs.set t.toNat r) t = r := by
 have : t.toNat < rs.length := by omega
 simp [aap,atL,this]
 rfl
section
variable {e : EnvV} {f : FrV}
structure LOk (f : FrV) : Prop where
 ne : f.l ≠ []
 le : f.l.length ≤ 999999999
theorem LOk.n (h : LOk f) : wi (((f.l.length : Nat) : Int) - 1) = ((f.l.length - 1 : Nat) : Int) := by
 have h1 := List.length_pos_iff.2 h.ne
 have h2 := h.le
 rw [aa7 (aab (by omega))]; omega
theorem LOk.a (h : LOk f) : aae f.l ((f.l.length - 1 : Nat) : Int) = aaQ f.l := by
 have h1 := List.length_pos_iff.2 h.ne
 simp only [aae,atL,aaQ,Int.toNat_natCast,List.getLast?_eq_getElem?]
 rfl
theorem LOk.g (h : LOk f) : (0 ≤ ((f.l.length - 1 : Nat) : Int) ∧ ((f.l.length - 1 : Nat) : Int) < ((f.l.length : Nat) : Int)) = True := by
 have h1 := List.length_pos_iff.2 h.ne
 exact eq_true ⟨by omega,by omega⟩
theorem LOk.g2 (h : LOk f) : (0 ≤ ((f.l.length - 1 : Nat) : Int) ∧ ((f.l.length - 1 : Nat) : Int) ≤ ((f.l.length : Nat) : Int)) = True := by
 have h1 := List.length_pos_iff.2 h.ne
 exact eq_true ⟨by omega,by omega⟩
theorem LOk.t (h : LOk f) : f.l.take (((f.l.length - 1 : Nat) : Int)).toNat = f.l.dropLast := by
 rw [List.dropLast_eq_take]; simp
theorem aua (h : LOk f) : adj f = some (((acW e f).1,()),((acW e f).2.2,())) ∧ (acW e f).2.1 = e := by
 unfold adj acW
 have h1 := List.length_pos_iff.2 h.ne
 have h2 := h.le
 simp only [h.n,h.g2,h.t,if_true,List.length_dropLast]
 by_cases hl : f.l.length = 1
 ·rw [if_pos (by omega),if_pos hl]; exact ⟨rfl,rfl⟩
 ·rw [if_neg (by omega),if_neg hl]; exact ⟨rfl,rfl⟩
theorem leave_eq' (h : LOk f) : adj f = some (((acW e f).1,()),((acW e f).2.2,())) := (aua h).1
theorem arL (e : EnvV) (f : FrV) : (acW e f).2.1 = e := by unfold acW; split <;> rfl
theorem afg (h : LOk f) (e : EnvV) : ((adj f).bind fun r =>some ((r.1.1,()),(e,r.2.1,()))) = some (adc (acW e f)) := by
 rw [leave_eq' (e := e) h]
 simp only [Option.bind_some,adc]
 rw [arL]
theorem ar6 (h : LOk f) (hE : Fit e) (t : Int) : ah9 e f t = some (adc (agk e f t)) := by
 unfold ah9 agk
 have hn : ∀ x,LOk { f with n := x } := fun x =>⟨h.ne,h.le⟩
 simp only [aa6,aa8,aaT,aaV,aa9,aaS,aaU,aav,aaw,aaW,aaJ,abn,aaM,aba,aaG,aaN,abz,aaX,aa2,Option.bind_some,if_true,abc,afg h,afg (hn _),acu,aeE hE,aeD hE,EnvV.hit,EnvV.ac,EnvV.rd]
 by_cases h17 : f.line = 17
 ·rw [if_pos h17,if_pos h17]; rfl
 rw [if_neg h17,if_neg h17]
 by_cases h18 : f.line = 18
 ·rw [if_pos h18,if_pos h18]
  split <;> (rename_i hh; simp only [hh,if_true,if_false,Bool.false_eq_true]; try rfl)
 rw [if_neg h18,if_neg h18]
 by_cases hT : abP e (wi (wu ((acc e.m 1 (aaK e.c t 2) 0 0).1.1 - 1)))
 ·have t1 := hT.1
  have t2 := hT.2.1
  have t3 := hT.2.2
  simp only [hT,t1,t2,t3,not_true,if_true,if_false]; rfl
 ·rw [if_neg hT]
  unfold abP at hT
  repeat' split
  all_goals first | rfl | omega
theorem asw (hi : 0 ≤ f.i) (hE : Fit e) : abH e f = some (adc (ahD e f)) := by
 unfold abH ahD
 by_cases h : (e.c.subs.length : Int) ≤ f.i
 ·rw [if_pos h,if_pos h]; rfl
 ·rw [if_neg h,if_neg h]
  have hg : (0 ≤ f.i ∧ f.i < (e.c.subs.length : Int)) := ⟨hi,by omega⟩
  simp only [hg,and_self,if_true,aa6,aa8,aaT,aaV,aa9,aaS,aaU,aav,aaw,aaW,aaJ,abn,aaM,aba,aaG,aaN,abz,aaX,aa2,Option.bind_some,if_true,abc,adc,go,fin,EnvV.ac,EnvV.rd,EnvV.hit,EnvV.em,szV,abW,ab5,acp,abU,adn,EnvV.put,EnvV.rc,acX,EnvV.sub,acu,aeE hE,aeD hE]
  repeat' split
  all_goals first | rfl | omega | (simp_all (config := { maxSteps := 400000 }) [w2,w3,w4,w5,w6,w7,w8,w9]; done) | (simp_all (config := { maxSteps := 400000 }) [w2,w3,w4,w5,w6,w7,w8,w9]; omega)
def ay8 (e : EnvV) (f : FrV) : Prop := 0 ≤ aaQ f.l ∧ aaQ f.l < (e.recs.length : Int)
def alm (e : EnvV) (t : Int) : Prop := (0 ≤ (e.rc t).prog ∧ (e.rc t).prog < (e.c.progs.length : Int)) ∧ 0 ≤ (e.rc t).pc ∧ (e.rc t).pc < ((e.prog t).length : Int)
theorem alm.prog {t : Int} (h : alm e t) : e.prog t = atL [] e.c.progs (e.rc t).prog := by
 unfold EnvV.prog
 rw [if_neg (by have := h.1; omega)]
theorem axz (h : LOk f) (hT : f.line ≠ 23 → ay8 e f) (hE : Fit e) (hp : f.line = 3 → alm e (aaQ f.l)) : aep e f = some (adc (avP e f)) := by
 unfold aep avP
 simp only [h.n,h.a,h.g,if_true]
 by_cases h23 : f.line = 23
 ·rw [if_pos h23,if_pos h23]; rfl
 rw [if_neg h23,if_neg h23]
 have ht : 0 ≤ aaQ f.l ∧ aaQ f.l < (e.recs.length : Int) := hT h23
 simp only [anY ht,ht,and_self,if_true,aa6,aa8,aaT,aaV,aa9,aaS,aaU,aav,aaw,aaW,aaJ,abn,aaM,aba,aaG,aaN,abz,aaX,aa2,Option.bind_some,if_true,abc,acu,aeE hE,aeD hE]
 by_cases h3 : f.line = 3
 ·obtain ⟨p1,p2⟩ := hp h3
  rw [(hp h3).prog] at p2
  have hi : e.ins (aaQ f.l) = acv (atL [] e.c.progs (e.rc (aaQ f.l)).prog) (e.rc (aaQ f.l)).pc := by unfold EnvV.ins; rw [(hp h3).prog]
  simp only [EnvV.rc] at p1 p2 hi
  have q1 : ¬ (aap e.recs (aaQ f.l)).prog < 0 := by omega
  have q2 : ¬ ((e.c.progs.length : Nat) : Int) ≤ (aap e.recs (aaQ f.l)).prog := by omega
  simp only [h3,show ¬ ((3 : Int) = 2) by decide,if_false,if_true,anU ht,List.set_set,q1,q2,p1,p2,and_self,hi,adc,go,fin,EnvV.ac,EnvV.rd,EnvV.hit,EnvV.em,szV,abW,ab5,acp,abU,adn,EnvV.put,EnvV.rc,acX,EnvV.sub,awW]
  repeat' split
  all_goals first | rfl | (simp_all; done) | omega
 by_cases h2 : f.line = 2
 ·simp only [h2,if_true]; rfl
 by_cases h4 : f.line = 4
 ·simp only [h4,show ¬ ((4 : Int) = 2) by decide,show ¬ ((4 : Int) = 3) by decide,if_true,if_false]; rfl
 by_cases h10 : f.line = 10
 ·simp only [h10,show ¬ ((10 : Int) = 2) by decide,show ¬ ((10 : Int) = 3) by decide,show ¬ ((10 : Int) = 4) by decide,if_true,if_false,anU ht,List.set_set]; rfl
 simp only [if_neg h2,if_neg h3,if_neg h4,if_neg h10]
 by_cases h11 : f.line = 11
 ·simp only [h11,if_true]; rfl
 by_cases h12 : f.line = 12
 ·simp only [h12,show ¬ ((12 : Int) = 11) by decide,if_true,if_false]
  simp only [adc,go,fin,EnvV.ac,EnvV.rd,EnvV.hit,EnvV.em,szV,abW,ab5,acp,abU,adn,EnvV.put,EnvV.rc,acX,EnvV.sub]
  split <;> (rename_i hh; simp only [hh,if_true,if_false,Bool.false_eq_true])
 by_cases h13 : f.line = 13
 ·simp only [h13,show ¬ ((13 : Int) = 11) by decide,show ¬ ((13 : Int) = 12) by decide,if_true,if_false]; rfl
 by_cases h15 : f.line = 15
 ·simp only [h15,show ¬ ((15 : Int) = 11) by decide,show ¬ ((15 : Int) = 12) by decide,show ¬ ((15 : Int) = 13) by decide,if_true,if_false]; rfl
 by_cases h16 : f.line = 16
 ·simp only [h16,show ¬ ((16 : Int) = 11) by decide,show ¬ ((16 : Int) = 12) by decide,show ¬ ((16 : Int) = 13) by decide,show ¬ ((16 : Int) = 15) by decide,if_true,if_false]; rfl
 simp only [if_neg h11,if_neg h12,if_neg h13,if_neg h15,if_neg h16,ar6 h hE,Option.bind_some]; try rfl
theorem ayp (hc : CfgOk e.c) {t : Int} (h1 : alm e t) (h2 : (e.ins t).op ≠ 0) (h3 : (e.ins t).op ≠ 1) : 0 ≤ (e.ins t).a := by
 obtain ⟨p1,p2⟩ := h1
 have hp := alm.prog ⟨p1,p2⟩
 have m1 : e.prog t ∈ e.c.progs := by rw [hp]; exact List.mem_of_getElem? (abZ p1)
 have m2 : e.ins t ∈ e.prog t := List.mem_of_getElem? (abZ (d := dfR 3) p2)
 exact (hc.ins _ m1 _ m2).2.2 h2 h3
theorem asA (h : LOk f) (hr : (e.recs.length : Int) = e.c.tasks) (hc : CfgOk e.c) : aia e f = some ((()),(e,ad3 e f,())) := by
 unfold aia ad3
 by_cases h1 : f.line ≠ 1
 ·rw [if_pos h1,if_pos h1]
 have h1 : f.line = 1 := by simpa using h1
 simp only [h1,ne_eq,not_true,if_false,h.n,h.a,h.g,if_true]
 by_cases hT : ¬ abP e (aaQ f.l)
 ·rw [if_pos hT]
  unfold abP at hT
  by_cases a1 : 0 ≤ aaQ f.l
  ·by_cases a2 : aaQ f.l < e.c.tasks
   ·rw [if_pos a1,if_pos a2,if_pos (fun a3 =>hT ⟨a1,a2,a3⟩)]
   ·rw [if_pos a1,if_neg a2]
  ·rw [if_neg a1]
 have hT : abP e (aaQ f.l) := by simpa using hT
 have t1 := hT.1
 have t2 := hT.2.1
 have t3 := hT.2.2
 have ht7 : 0 ≤ aaQ f.l ∧ aaQ f.l < (e.recs.length : Int) := ⟨t1,t3⟩
 have w7 : ws7 e.recs (aaQ f.l) = e.recs := anY ht7
 have w8 : e.recs.set (aaQ f.l).toNat (aap e.recs (aaQ f.l)) = e.recs := w7
 simp only [w7,w8,hT,t1,t2,t3,not_true,if_true,if_false,and_self]
 by_cases hp : (aap e.recs (aaQ f.l)).prog < 0
 ·have e0 : e.prog (aaQ f.l) = [] := by unfold EnvV.prog EnvV.rc; rw [if_pos (.inl hp)]
  simp only [hp,if_true,e0,EnvV.rc,List.length_nil]
  repeat' split
  all_goals first | rfl | omega | (simp_all; omega)
 by_cases hp2 : ((e.c.progs.length : Nat) : Int) ≤ (aap e.recs (aaQ f.l)).prog
 ·have e0 : e.prog (aaQ f.l) = [] := by unfold EnvV.prog EnvV.rc; rw [if_pos (.inr hp2)]
  simp only [hp,hp2,if_true,if_false,e0,EnvV.rc,List.length_nil]
  repeat' split
  all_goals first | rfl | omega | (simp_all; omega)
 have e0 : e.prog (aaQ f.l) = atL [] e.c.progs (aap e.recs (aaQ f.l)).prog := by unfold EnvV.prog EnvV.rc; rw [if_neg (by omega)]
 have hp3 : 0 ≤ (aap e.recs (aaQ f.l)).prog ∧ (aap e.recs (aaQ f.l)).prog < (e.c.progs.length : Int) := by omega
 have ha := ayp (t := aaQ f.l) hc
 unfold alm at ha
 simp only [EnvV.ins,e0,EnvV.rc] at ha
 simp only [hp,hp2,hp3,if_true,if_false,and_self,EnvV.ins,e0,EnvV.rc]
 by_cases hw : (aap e.recs (aaQ f.l)).waiting ≠ -1
 ·rw [if_pos hw,if_pos hw]
 have hw : (aap e.recs (aaQ f.l)).waiting = -1 := by simpa using hw
 simp only [hw,not_true,if_false]
 by_cases hpc : (aap e.recs (aaQ f.l)).pc < 0 ∨ (((atL [] e.c.progs (aap e.recs (aaQ f.l)).prog).length : Nat) : Int) ≤ (aap e.recs (aaQ f.l)).pc
 ·rw [if_pos hpc]
  by_cases a1 : (aap e.recs (aaQ f.l)).pc < 0
  ·rw [if_pos a1]
  ·rw [if_neg a1,if_pos (by omega)]
 have hpc2 : 0 ≤ (aap e.recs (aaQ f.l)).pc ∧ (aap e.recs (aaQ f.l)).pc < (((atL [] e.c.progs (aap e.recs (aaQ f.l)).prog).length : Nat) : Int) := by omega
 have hpc3 : ¬ (aap e.recs (aaQ f.l)).pc < 0 := by omega
 have hpc4 : ¬ (((atL [] e.c.progs (aap e.recs (aaQ f.l)).prog).length : Nat) : Int) ≤ (aap e.recs (aaQ f.l)).pc := by omega
 rw [if_neg hpc]
 simp only [hpc2,hpc3,hpc4,if_true,if_false,and_self]
 by_cases o0 : (acv (atL [] e.c.progs (aap e.recs (aaQ f.l)).prog) (aap e.recs (aaQ f.l)).pc).op = 0
 ·rw [if_pos o0,if_pos o0]
 by_cases o1 : (acv (atL [] e.c.progs (aap e.recs (aaQ f.l)).prog) (aap e.recs (aaQ f.l)).pc).op = 1
 ·rw [if_neg o0,if_neg o0,if_pos o1,if_pos o1]
 have ha1 := ha ⟨hp3,hpc2⟩ o0 o1
 rw [if_neg o0,if_neg o0,if_neg o1,if_neg o1]
 repeat' split
 all_goals first | rfl | omega | (simp_all; done) | (simp_all; omega)
theorem anA (h : LOk f) (hr : (e.recs.length : Int) = e.c.tasks) (hc : CfgOk e.c) : afs e f = some ((((axc (ad3 e f)).getD (frK 0),(axc (ad3 e f)).isSome,())),(e,ad3 e f,())) := by
 unfold afs
 rw [asA h hr hc]
 simp only [Option.bind_some]
 generalize ad3 e f = g
 unfold axc
 repeat' split
 all_goals first | rfl | omega | (simp_all; done) | (simp_all; omega)
theorem ak3 : adO f = some ((((amt f).getD (frK 0),(amt f).isSome,())),(f,())) := by
 unfold adO amt
 repeat' split
 all_goals rfl
theorem ajn : ado e f = some (((akb e (ael e f),true,())),(e,ael e f,())) := by
 unfold ado ael akb
 simp only [aa6,aa8,aaT,aaV,aa9,aaS,aaU,aav,aaw,aaW,aaJ,abn,aaM,aba,aaG,aaN,abz,aaX,aa2,Option.bind_some,if_true,abc,afr]
 by_cases h1 : f.line = 1
 ·by_cases ha : e.c.age = 0
  ·simp only [h1,ha,and_self,if_true]; rfl
  ·simp only [h1,ha,and_false,if_false,if_true]; rfl
 ·simp only [h1,false_and,if_false]
  repeat' split
  all_goals first | rfl | omega
theorem ajo (hi : 0 ≤ f.i) : adp e f = some ((((ai7 e f).getD (frK 0),(ai7 e f).isSome,())),(e,f,())) := by
 unfold adp ai7
 by_cases h : (e.c.subs.length : Int) ≤ f.i
 ·rw [if_pos h,if_pos h]; rfl
 ·have hg : (0 ≤ f.i ∧ f.i < (e.c.subs.length : Int)) := ⟨hi,by omega⟩
  rw [if_neg h,if_neg h]
  simp only [hg,and_self,if_true,EnvV.sub]
  repeat' split
  all_goals rfl
end
theorem aoT {w a : Int} {F : (Int × Int × Unit → Option (Int × Int × Unit)) → Int × Int × Unit → Option (Int × Int × Unit)}
  (hF : F = fun self x =>if x.2.1 < w then (if x.2.1 ≠ a then self (wi (x.1 + 1),wi (x.2.1 + 1),()) else self (x.1,wi (x.2.1 + 1),())) else some (x.1,x.2.1,())) (hw : w ≤ 64) :
  ∀ (k i : Nat),(i : Int) ≤ w → w - i < k → 0 ≤ ajp a i ∧ ajp a i ≤ i → lpF F k (ajp a i,(i : Int),()) = some (ajp a w.toNat,w,())
 | 0,i,h1,h2,_ =>by omega
 | k + 1,i,h1,h2,h3 =>by
  rw [abA,congrFun (congrFun hF _) _]
  by_cases h : (i : Int) < w
  ·have e1 : wi ((i : Int) + 1) = ((i + 1 : Nat) : Int) := by rw [aa7 (aab (by omega))]; omega
   have e2 : wi (ajp a i + 1) = ajp a i + 1 := aa7 (aab (by omega))
   simp only [h,if_true,e1,e2]
   have ih := aoT hF hw k (i + 1) (by omega) (by omega)
   by_cases hv : (i : Int) ≠ a
   ·rw [if_pos hv]
    have e3 : ajp a (i + 1) = ajp a i + 1 := by simp only [ajp]; rw [if_pos hv]
    rw [← e3]; exact ih (by rw [e3]; omega)
   ·rw [if_neg hv]
    have e3 : ajp a (i + 1) = ajp a i := by simp only [ajp]; rw [if_neg hv]
    rw [← e3]; exact ih (by rw [e3]; omega)
  ·simp only [h,if_false]
   rw [show w.toNat = i by omega,show w = (i : Int) by omega]
theorem aiO {w a t : Int} {F : (Bool × Int × Unit → Option (Bool × Int × Unit)) → Bool × Int × Unit → Option (Bool × Int × Unit)}
  (hF : F = fun self x =>if x.2.1 < w then (if x.1 = true then self (true,wi (x.2.1 + 1),()) else self (decide (¬ Int.tmod (wi (t + x.2.1)) w = a),wi (x.2.1 + 1),())) else some (x.1,x.2.1,())) (h0 : 1 ≤ w) (hw : w ≤ 64) :
  ∀ (n k : Nat) (b : Bool) (i : Int),0 ≤ i → i ≤ 100 → (w - i).toNat = n → n < k → ∃ j,lpF F k (b,i,()) = some (b || arK w a t n i,j,())
 | 0,k + 1,b,i,_,_,hn,_ =>by
  refine ⟨i,?_⟩
  rw [abA,congrFun (congrFun hF _) _]
  simp only [show ¬ i < w by omega,if_false,arK,Bool.or_false]
 | n + 1,k + 1,b,i,hi,hi2,hn,hk =>by
  have e1 : wi (i + 1) = i + 1 := aa7 (aab (by omega))
  cases b with
  | true =>
   obtain ⟨j,hj⟩ := aiO hF h0 hw n k true (i + 1) (by omega) (by omega) (by omega) (by omega)
   refine ⟨j,?_⟩
   rw [abA,congrFun (congrFun hF _) _]
   simp only [show i < w by omega,if_true,e1,hj,Bool.true_or]
  | false =>
   obtain ⟨j,hj⟩ := aiO hF h0 hw n k (decide (Int.tmod (wi (t + i)) w ≠ a)) (i + 1) (by omega) (by omega) (by omega) (by omega)
   refine ⟨j,?_⟩
   rw [abA,congrFun (congrFun hF _) _]
   simp only [show i < w by omega,if_true,e1,Bool.false_eq_true,if_false]
   simp only [ne_eq] at hj
   rw [hj]
   simp only [arK,Bool.false_or,ne_eq]
section
variable {e : EnvV} {f : FrV}
theorem at9 {w a t i : Int} {β : Type} {F : (Bool × Int × Unit → Option (Bool × Int × Unit)) → Bool × Int × Unit → Option (Bool × Int × Unit)}
  (hF : F = fun self x =>if x.2.1 < w then (if x.1 = true then self (true,wi (x.2.1 + 1),()) else self (decide (¬ Int.tmod (wi (t + x.2.1)) w = a),wi (x.2.1 + 1),())) else some (x.1,x.2.1,())) (h0 : 1 ≤ w) (hw : w ≤ 64) (hi : 0 ≤ i) (hi2 : i ≤ 100) (A B : Option β) :
  ((lpF F 18446744073709551616 (false,i,())).bind fun z =>if z.1 = true then A else B) = if awp w a t i = true then A else B := by
 obtain ⟨j,hj⟩ := aiO hF h0 hw (w - i).toNat 18446744073709551616 false i hi hi2 rfl (by omega)
 rw [hj]
 simp only [Option.bind_some,Bool.false_or]
 rfl
theorem awY {w a : Int} {β : Type} {F : (Int × Int × Unit → Option (Int × Int × Unit)) → Int × Int × Unit → Option (Int × Int × Unit)}
  (hF : F = fun self x =>if x.2.1 < w then (if x.2.1 ≠ a then self (wi (x.1 + 1),wi (x.2.1 + 1),()) else self (x.1,wi (x.2.1 + 1),())) else some (x.1,x.2.1,())) (h0 : 0 ≤ w) (hw : w ≤ 64) (A B : Option β) :
  ((lpF F 18446744073709551616 (0,0,())).bind fun z =>if z.1 = 0 then A else B) = if ajp a w.toNat = 0 then A else B := by
 have := aoT hF hw 18446744073709551616 0 (by omega) (by omega) ⟨by simp [ajp],by simp [ajp]⟩
 simp only [ajp] at this
 rw [show ((0 : Nat) : Int) = 0 from rfl] at this
 rw [this]
 rfl
theorem atQ (hc : CfgOk e.c) (hi : 0 ≤ f.i ∧ f.i ≤ e.c.workers) : aca e f = some (adc (ahV e f)) := by
 have w1 := hc.w1
 have w2 := hc.w2
 have hn : e.c.workers ≠ 0 := by omega
 have e1 : wi (f.i + 1) = f.i + 1 := aa7 (aab (by omega))
 have e2 : wi (f.i + 1 + 1) = f.i + 1 + 1 := aa7 (aab (by omega))
 have lu : ∀ (t i : Int) (A B : Option ((ResV × Unit) × (EnvV × FrV × Unit))),0 ≤ i → i ≤ 100 → _ := fun t i A B h1 h2 =>at9 (w := e.c.workers) (a := f.a) (t := t) rfl w1 w2 h1 h2 A B
 have cu : ∀ (A B : Option ((ResV × Unit) × (EnvV × FrV × Unit))),_ := fun A B =>awY (w := e.c.workers) (a := f.a) rfl (by omega) w2 A B
 have i1 : 0 ≤ f.i + 1 ∧ f.i + 1 ≤ 100 := by omega
 have i2 : 0 ≤ f.i + 1 + 1 ∧ f.i + 1 + 1 ≤ 100 := by omega
 unfold aca ahV
 simp only [aa6,aa8,aaT,aaV,aa9,aaS,aaU,aav,aaw,aaW,aaJ,abn,aaM,aba,aaG,aaN,abz,aaX,aa2,Option.bind_some,if_true,abc,hn,ne_eq,not_false_iff,e1,e2]
 by_cases h1 : f.line = 1
 ·rw [if_pos h1]
  have hb : afZ e f = { f with line := 2,j := -1,n := -1,t := abV e.draw e.c.workers } := by unfold afZ; rw [if_pos h1]
  rw [hb]
  refine (cu _ _).trans ?_
  unfold ahU
  by_cases hk : ajp f.a e.c.workers.toNat = 0
  ·simp only [hk,if_true]; rfl
  simp only [hk,if_false]
  by_cases hv : Int.tmod (wi (abV e.draw e.c.workers + f.i)) e.c.workers = f.a
  ·have hI : acJ e { f with line := 2,j := -1,n := -1,t := abV e.draw e.c.workers } = f.i + 1 := by unfold acJ; rw [if_pos hv,e1]
   simp only [hv,if_true]
   by_cases hh : -1 < agj (acc e.m 1 (abu e.c (Int.tmod (wi (abV e.draw e.c.workers + (f.i + 1))) e.c.workers)) 0 0).1.1
   ·rw [if_pos hh]
    refine (lu _ _ _ _ i2.1 i2.2).trans ?_
    have hF : ab0 e { f with line := 2,j := -1,n := -1,t := abV e.draw e.c.workers } = { ({ f with line := 2,j := -1,n := -1,t := abV e.draw e.c.workers } : FrV) with i := wi (f.i + 1 + 1),j := Int.tmod (wi (abV e.draw e.c.workers + (f.i + 1))) e.c.workers,n := agj (e.ld (abu e.c (Int.tmod (wi (abV e.draw e.c.workers + (f.i + 1))) e.c.workers))) } := by unfold ab0 afa acB; rw [hI]; exact if_pos hh
    rw [hF]
    unfold acB
    rw [hI]
    simp only [e2]
    repeat' split
    all_goals rfl
   ·rw [if_neg hh]
    refine (lu _ _ _ _ i2.1 i2.2).trans ?_
    have hF : ab0 e { f with line := 2,j := -1,n := -1,t := abV e.draw e.c.workers } = { ({ f with line := 2,j := -1,n := -1,t := abV e.draw e.c.workers } : FrV) with i := wi (f.i + 1 + 1) } := by unfold ab0 afa acB; rw [hI]; exact if_neg hh
    rw [hF]
    unfold acB
    rw [hI]
    simp only [e2]
    repeat' split
    all_goals first | rfl | (exfalso; omega)
  ·have hI : acJ e { f with line := 2,j := -1,n := -1,t := abV e.draw e.c.workers } = f.i := by unfold acJ; rw [if_neg hv]
   simp only [hv,if_false]
   by_cases hh : -1 < agj (acc e.m 1 (abu e.c (Int.tmod (wi (abV e.draw e.c.workers + f.i)) e.c.workers)) 0 0).1.1
   ·rw [if_pos hh]
    refine (lu _ _ _ _ i1.1 i1.2).trans ?_
    have hF : ab0 e { f with line := 2,j := -1,n := -1,t := abV e.draw e.c.workers } = { ({ f with line := 2,j := -1,n := -1,t := abV e.draw e.c.workers } : FrV) with i := wi (f.i + 1),j := Int.tmod (wi (abV e.draw e.c.workers + f.i)) e.c.workers,n := agj (e.ld (abu e.c (Int.tmod (wi (abV e.draw e.c.workers + f.i)) e.c.workers))) } := by unfold ab0 afa acB; rw [hI]; exact if_pos hh
    rw [hF]
    unfold acB
    rw [hI]
    simp only [e1]
    repeat' split
    all_goals rfl
   ·rw [if_neg hh]
    refine (lu _ _ _ _ i1.1 i1.2).trans ?_
    have hF : ab0 e { f with line := 2,j := -1,n := -1,t := abV e.draw e.c.workers } = { ({ f with line := 2,j := -1,n := -1,t := abV e.draw e.c.workers } : FrV) with i := wi (f.i + 1) } := by unfold ab0 afa acB; rw [hI]; exact if_neg hh
    rw [hF]
    unfold acB
    rw [hI]
    simp only [e1]
    repeat' split
    all_goals first | rfl | (exfalso; omega)
 ·rw [if_neg h1]
  have hb : afZ e f = f := by unfold afZ; rw [if_neg h1]
  rw [hb]
  refine (cu _ _).trans ?_
  unfold ahU
  by_cases hk : ajp f.a e.c.workers.toNat = 0
  ·simp only [hk,if_true]; rfl
  simp only [hk,if_false]
  by_cases hv : Int.tmod (wi (f.t + f.i)) e.c.workers = f.a
  ·have hI : acJ e f = f.i + 1 := by unfold acJ; rw [if_pos hv,e1]
   simp only [hv,if_true]
   by_cases hh : f.n < agj (acc e.m 1 (abu e.c (Int.tmod (wi (f.t + (f.i + 1))) e.c.workers)) 0 0).1.1
   ·rw [if_pos hh]
    refine (lu _ _ _ _ i2.1 i2.2).trans ?_
    have hF : ab0 e f = { f with i := wi (f.i + 1 + 1),j := Int.tmod (wi (f.t + (f.i + 1))) e.c.workers,n := agj (e.ld (abu e.c (Int.tmod (wi (f.t + (f.i + 1))) e.c.workers))) } := by unfold ab0 afa acB; rw [hI]; exact if_pos hh
    rw [hF]
    unfold acB
    rw [hI]
    simp only [e2]
    repeat' split
    all_goals rfl
   ·rw [if_neg hh]
    refine (lu _ _ _ _ i2.1 i2.2).trans ?_
    have hF : ab0 e f = { f with i := wi (f.i + 1 + 1) } := by unfold ab0 afa acB; rw [hI]; exact if_neg hh
    rw [hF]
    unfold acB
    rw [hI]
    simp only [e2]
    repeat' split
    all_goals rfl
  ·have hI : acJ e f = f.i := by unfold acJ; rw [if_neg hv]
   simp only [hv,if_false]
   by_cases hh : f.n < agj (acc e.m 1 (abu e.c (Int.tmod (wi (f.t + f.i)) e.c.workers)) 0 0).1.1
   ·rw [if_pos hh]
    refine (lu _ _ _ _ i1.1 i1.2).trans ?_
    have hF : ab0 e f = { f with i := wi (f.i + 1),j := Int.tmod (wi (f.t + f.i)) e.c.workers,n := agj (e.ld (abu e.c (Int.tmod (wi (f.t + f.i)) e.c.workers))) } := by unfold ab0 afa acB; rw [hI]; exact if_pos hh
    rw [hF]
    unfold acB
    rw [hI]
    simp only [e1]
    repeat' split
    all_goals rfl
   ·rw [if_neg hh]
    refine (lu _ _ _ _ i1.1 i1.2).trans ?_
    have hF : ab0 e f = { f with i := wi (f.i + 1) } := by unfold ab0 afa acB; rw [hI]; exact if_neg hh
    rw [hF]
    unfold acB
    rw [hI]
    simp only [e1]
    repeat' split
    all_goals rfl
end
structure LeafC (e : EnvV) (f : FrV) : Prop where
 cf : CfgOk e.c
 fit : Fit e
 rc : (e.recs.length : Int) = e.c.tasks
 cap : f.q.cap ≤ 9223372036854775807
 run : f.kind = 24 → LOk f ∧ (f.line ≠ 23 → ay8 e f) ∧ (f.line = 3 → alm e (aaQ f.l))
 cl : f.kind = 26 → 0 ≤ f.i
 pr : f.kind = 21 → 0 ≤ f.i ∧ f.i ≤ e.c.workers
section
variable {e : EnvV} {f : FrV}
theorem awq (p : LeafC e f) : aiu e f = some (adc (adJ e f)) := by
 unfold aiu adJ
 by_cases hk : f.kind = 0
 ·simp only [av4 p.cap,Option.bind_some,Int.reduceEq,hk,if_true,if_false]
  try rfl
 have n0 := hk; clear hk
 by_cases hk : f.kind = 1
 ·simp only [axI p.cap,Option.bind_some,Int.reduceEq,hk,if_true,if_false]
  try rfl
 have n1 := hk; clear hk
 by_cases hk : f.kind = 2
 ·simp only [ate p.cap,Option.bind_some,Int.reduceEq,hk,if_true,if_false]
  try rfl
 have n2 := hk; clear hk
 by_cases hk : f.kind = 3
 ·simp only [aaM,aa6,aav,aaN,Option.bind_some,Int.reduceEq,hk,if_true,if_false]
  try rfl
 have n3 := hk; clear hk
 by_cases hk : f.kind = 4
 ·simp only [anJ,Option.bind_some,Int.reduceEq,hk,if_true,if_false]
  try rfl
 have n4 := hk; clear hk
 by_cases hk : f.kind = 6
 ·simp only [hk,if_true,if_false,aaM,aa6,aav,aaN,Option.bind_some,Int.reduceEq,EnvV.rd,EnvV.hit]
  split <;> first | rfl | (rename_i hh; simp only [hh,if_true,if_false,Bool.false_eq_true]; try rfl)
 have n6 := hk; clear hk
 by_cases hk : f.kind = 7
 ·simp only [hk,if_true,if_false,aaM,aa6,aav,aaN,Option.bind_some,Int.reduceEq,EnvV.rd,EnvV.hit]
  split <;> first | rfl | (rename_i hh; simp only [hh,if_true,if_false,Bool.false_eq_true]; try rfl)
 have n7 := hk; clear hk
 by_cases hk : f.kind = 8
 ·simp only [hk,if_true,if_false,aaM,aa6,aav,aaN,Option.bind_some,Int.reduceEq,EnvV.rd,EnvV.hit]
  split <;> first | rfl | (rename_i hh; simp only [hh,if_true,if_false,Bool.false_eq_true]; try rfl)
 have n8 := hk; clear hk
 by_cases hk : f.kind = 9
 ·simp only [aaM,aa6,aav,aaN,Option.bind_some,Int.reduceEq,hk,if_true,if_false]
  try rfl
 have n9 := hk; clear hk
 by_cases hk : f.kind = 10
 ·simp only [arU,Option.bind_some,Int.reduceEq,hk,if_true,if_false]
  try rfl
 have n10 := hk; clear hk
 by_cases hk : f.kind = 11
 ·simp only [aqL p.fit,Option.bind_some,Int.reduceEq,hk,if_true,if_false]
  try rfl
 have n11 := hk; clear hk
 by_cases hk : f.kind = 12
 ·simp only [amS hk,Option.bind_some,Int.reduceEq,hk,if_true,if_false]
  try rfl
 have n12 := hk; clear hk
 by_cases hk : f.kind = 13
 ·simp only [ake hk,Option.bind_some,Int.reduceEq,hk,if_true,if_false]
  try rfl
 have n13 := hk; clear hk
 by_cases hk : f.kind = 14
 ·simp only [amR hk p.fit p.rc,Option.bind_some,Int.reduceEq,hk,if_true,if_false]
  try rfl
 have n14 := hk; clear hk
 by_cases hk : f.kind = 15
 ·simp only [amQ hk,Option.bind_some,Int.reduceEq,hk,if_true,if_false]
  try rfl
 have n15 := hk; clear hk
 by_cases hk : f.kind = 16
 ·simp only [anP hk p.fit,Option.bind_some,Int.reduceEq,hk,if_true,if_false]
  try rfl
 have n16 := hk; clear hk
 by_cases hk : f.kind = 17
 ·simp only [ap4 hk,Option.bind_some,Int.reduceEq,hk,if_true,if_false]
  try rfl
 have n17 := hk; clear hk
 by_cases hk : f.kind = 18
 ·simp only [ata p.fit,Option.bind_some,Int.reduceEq,hk,if_true,if_false]
  try rfl
 have n18 := hk; clear hk
 by_cases hk : f.kind = 19
 ·simp only [ath p.fit,Option.bind_some,Int.reduceEq,hk,if_true,if_false]
  try rfl
 have n19 := hk; clear hk
 by_cases hk : f.kind = 20
 ·simp only [avl p.fit,Option.bind_some,Int.reduceEq,hk,if_true,if_false]
  try rfl
 have n20 := hk; clear hk
 by_cases hk : f.kind = 21
 ·simp only [atQ p.cf (p.pr hk),Option.bind_some,Int.reduceEq,hk,if_true,if_false]
  try rfl
 have n21 := hk; clear hk
 by_cases hk : f.kind = 22
 ·simp only [aux,Option.bind_some,Int.reduceEq,hk,if_true,if_false]
  try rfl
 have n22 := hk; clear hk
 by_cases hk : f.kind = 24
 ·simp only [axz (p.run hk).1 (p.run hk).2.1 p.fit (p.run hk).2.2,Option.bind_some,Int.reduceEq,hk,if_true,if_false]
  try rfl
 have n24 := hk; clear hk
 by_cases hk : f.kind = 26
 ·simp only [asw (p.cl hk) p.fit,Option.bind_some,Int.reduceEq,hk,if_true,if_false]
  try rfl
 have n26 := hk; clear hk
 simp only [n0,n1,n2,n3,n4,n6,n7,n8,n9,n10,n11,n12,n13,n14,n15,n16,n17,n18,n19,n20,n21,n22,n24,n26,if_false]
 rfl
structure BackC (e : EnvV) (f : FrV) (code value : Int) : Prop where
 cf : CfgOk e.c
 fit : Fit e
 run : f.kind = 24 → (LOk f ∧ ay8 e f) ∧ (f.line = 5 → alm e (aaQ f.l) ∧ (e.rc (aaQ f.l)).kids.length < 999999999 ∧ (code ≠ 3 → 0 ≤ value ∧ value < (e.recs.length : Int)))
 cl : f.kind = 26 → (0 ≤ f.i ∧ f.i < (e.c.subs.length : Int)) ∧ (f.line = 3 → code ≠ 3 → 0 ≤ value ∧ value < (e.recs.length : Int))
theorem anS (hE : Fit e) (code : Int) : afu e f code = some (adc (aqh e f code)) := by
 unfold afu aqh
 simp only [acu hE,Option.bind_some]
 repeat' split
 all_goals rfl
theorem amB (code value : Int) : aer e f code value = some (adc (amu e f code value)) := by
 unfold aer amu
 repeat' split
 all_goals first | rfl | omega
theorem anT (code value : Int) : ((afv f code value).bind fun r =>some ((r.1.1,()),(e,r.2.1,()))) = some (adc (alr e f code value)) := by
 unfold afv alr
 repeat' split
 all_goals rfl
theorem alc (hc : CfgOk e.c) (hE : Fit e) (code value : Int) : ((adP e f code value).bind fun r =>some (((⟨false,0,0⟩ : ResV),()),(r.2.1,r.2.2.1,()))) = some (adc (agm e f code value)) := by
 unfold adP agm
 have ht := hc.t1
 have hm : (if 1 < e.c.tasks then e.c.tasks else 1) ≠ 0 := by split <;> omega
 simp only [acu hE,Option.bind_some,hm,ne_eq,not_false_iff,if_true]
 repeat' split
 all_goals rfl
theorem aml : adB e f = some (adc (ahA e f)) := by
 unfold adB ahA
 split <;> rfl
theorem ald (hE : Fit e) {code value : Int} (hi : 0 ≤ f.i ∧ f.i < (e.c.subs.length : Int)) (hv : f.line = 3 → code ≠ 3 → 0 ≤ value ∧ value < (e.recs.length : Int)) : adQ e f code value = some (adc (ai8 e f code value)) := by
 unfold adQ ai8
 simp only [hi,and_self,if_true,acu hE,aml,aeq,Option.bind_some]
 by_cases h1 : f.line = 1
 ·simp only [h1,if_true]; rfl
 by_cases h3 : f.line = 3
 ·simp only [h3,if_true,if_false,Int.reduceEq]
  by_cases hcode : code = 3
  ·simp only [hcode,if_true]; rfl
  ·have := hv h3 hcode
   simp only [hcode,this,and_self,if_true,if_false]; rfl
 simp only [if_neg h1,if_neg h3]
 repeat' split
 all_goals rfl
theorem LOk.dl (h : LOk f) : f.l.length = f.l.dropLast.length + 1 := by
 have := List.length_pos_iff.2 h.ne
 rw [List.length_dropLast]; omega
theorem awR {rs : List RecV} (h : Fit e) (k w t o l : Int) : aay { e with recs := rs } k w t o l = some ((()),(({ e with recs := rs } : EnvV).em k w t o l,())) := acu (e := { e with recs := rs }) h k w t o l
theorem ap5 (hE : Fit e) {code value : Int} (h : LOk f) (ht : ay8 e f) (h5 : f.line = 5 → alm e (aaQ f.l) ∧ (e.rc (aaQ f.l)).kids.length < 999999999 ∧ (code ≠ 3 → 0 ≤ value ∧ value < (e.recs.length : Int))) : agA e f code value = some (adc (axA e f code value)) := by
 unfold agA axA
 have ht2 : 0 ≤ aaQ f.l ∧ aaQ f.l < (e.recs.length : Int) := ht
 have hle := h.le
 have hdl := h.dl
 have g1 : ∀ n : Nat,n < 999999999 → (((n : Nat) : Int) < 1000000000000) = True := fun n hn =>eq_true (by omega)
 simp only [h.n,h.a,h.g,h.g2,h.t,anY ht2,if_true,ht2,and_self]
 by_cases l5 : f.line = 5
 ·obtain ⟨⟨p1,p2⟩,p3,p4⟩ := h5 l5
  rw [alm.prog ⟨p1,p2⟩] at p2
  have hi : e.ins (aaQ f.l) = acv (atL [] e.c.progs (e.rc (aaQ f.l)).prog) (e.rc (aaQ f.l)).pc := by unfold EnvV.ins; rw [(h5 l5).1.prog]
  simp only [EnvV.rc] at p1 p2 p3 hi
  have q1 : ¬ (aap e.recs (aaQ f.l)).prog < 0 := by omega
  have q2 : ¬ ((e.c.progs.length : Nat) : Int) ≤ (aap e.recs (aaQ f.l)).prog := by omega
  have q3 : ((([] : List Int).length + (aap e.recs (aaQ f.l)).kids.length : Nat) : Int) < 1000000000000 := by simp; omega
  have q4 : ∀ k : Int,(((aap e.recs (aaQ f.l)).kids.length + ([k] : List Int).length : Nat) : Int) < 1000000000000 := fun k =>by simp; omega
  simp only [if_pos l5,acT,q1,q2,p1,p2,if_false,if_true,and_self,anU ht2,List.set_set,q3,q4,aeq,Option.bind_some,awR hE,List.length_set,hi,List.nil_append]
  by_cases hcode : code = 3
  ·simp only [hcode,if_true]; rfl
  ·have := p4 hcode
   simp only [hcode,if_false,this,and_self,if_true]; rfl
 simp only [if_neg l5,acu hE,Option.bind_some]
 by_cases l6 : f.line = 6
 ·simp only [l6,if_true]; rfl
 by_cases l7 : f.line = 7
 ·simp only [l7,if_true,if_false,Int.reduceEq]; split <;> rfl
 by_cases l8 : f.line = 8
 ·simp only [l8,if_true,if_false,Int.reduceEq]; rfl
 by_cases l9 : f.line = 9
 ·have q1 : ((([] : List Int).length + f.l.length : Nat) : Int) < 1000000000000 := by simp; omega
  have q2 : ((f.l.length + ([f.n] : List Int).length : Nat) : Int) < 1000000000000 := by simp; omega
  simp only [l9,if_true,if_false,Int.reduceEq,q1,q2,List.nil_append,acT]; split <;> rfl
 by_cases l14 : f.line = 14
 ·simp only [l14,if_true,if_false,Int.reduceEq,afg h]
 by_cases l20 : f.line = 20
 ·simp only [l20,if_true,if_false,Int.reduceEq]; split <;> rfl
 by_cases l21 : f.line = 21
 ·simp only [l21,if_true,if_false,Int.reduceEq,afg h]
 by_cases l22 : f.line = 22
 ·have q1 : ((([] : List Int).length + f.l.dropLast.length : Nat) : Int) < 1000000000000 := by simp; omega
  have q2 : ((f.l.dropLast.length + ([f.n] : List Int).length : Nat) : Int) < 1000000000000 := by simp; omega
  simp only [l22,if_true,if_false,Int.reduceEq,q1,q2,List.nil_append,afg h,acT]
  by_cases hcode : code = 1
  ·simp only [hcode,ne_eq,not_true,if_false,if_true]; try rfl
  ·simp only [hcode,ne_eq,not_false_iff,if_false,if_true]
 simp only [l6,l7,l8,l9,l14,l20,l21,l22,if_false]; rfl
theorem aw5 {code value : Int} (p : BackC e f code value) : ajF e f code value = some (adc (afR e f code value)) := by
 unfold ajF afR
 by_cases k5 : f.kind = 5
 ·simp only [k5,if_true]
  repeat' split
  all_goals first | rfl | omega
 by_cases k6 : f.kind = 6
 ·simp only [k6,if_true,if_false,Int.reduceEq]
  repeat' split
  all_goals first | rfl | omega
 by_cases k15 : f.kind = 15
 ·simp only [k15,if_true,if_false,Int.reduceEq]; rfl
 by_cases k17 : f.kind = 17
 ·simp only [k17,if_true,if_false,Int.reduceEq,anS p.fit,Option.bind_some]; try rfl
 by_cases k18 : f.kind = 18
 ·simp only [k18,if_true,if_false,Int.reduceEq,acu p.fit,Option.bind_some]
  split <;> rfl
 by_cases k22 : f.kind = 22
 ·simp only [k22,if_true,if_false,Int.reduceEq,amB,Option.bind_some]; try rfl
 by_cases k23 : f.kind = 23
 ·simp only [k23,if_true,if_false,Int.reduceEq,anT]
 by_cases k24 : f.kind = 24
 ·have hr := p.run k24
  simp only [k24,if_true,if_false,Int.reduceEq,ap5 p.fit hr.1.1 hr.1.2 hr.2,Option.bind_some]; try rfl
 by_cases k25 : f.kind = 25
 ·simp only [k25,if_true,if_false,Int.reduceEq,alc p.cf p.fit]
 by_cases k26 : f.kind = 26
 ·have hr := p.cl k26
  simp only [k26,if_true,if_false,Int.reduceEq,ald p.fit hr.1 hr.2,Option.bind_some]; try rfl
 simp only [k5,k6,k15,k17,k18,k22,k23,k24,k25,k26,if_false]; rfl
structure EntC (e : EnvV) (f : FrV) : Prop where
 cf : CfgOk e.c
 rc : (e.recs.length : Int) = e.c.tasks
 run : f.kind = 24 → LOk f
 cl : f.kind = 26 → 0 ≤ f.i
def az6 (e : EnvV) (o : Option FrV × FrV) : (FrV × Bool × Unit) × (EnvV × FrV × Unit) := ((o.1.getD (frK 0),o.1.isSome,()),(e,o.2,()))
theorem auv (p : EntC e f) : af5 e f = some (az6 e (agW e f)) := by
 unfold af5 agW
 by_cases k5 : f.kind = 5
 ·simp only [k5,if_true,aaJ,aav,Option.bind_some]
  split <;> rfl
 by_cases k6 : f.kind = 6
 ·simp only [k6,if_true,if_false,Int.reduceEq,aaJ,aav,Option.bind_some]
  repeat' split
  all_goals rfl
 by_cases k15 : f.kind = 15
 ·simp only [k15,if_true,if_false,Int.reduceEq]
  split <;> rfl
 by_cases k17 : f.kind = 17
 ·simp only [k17,if_true,if_false,Int.reduceEq]
  by_cases l1 : f.line = 1
  ·simp only [l1,if_true,if_false,Int.reduceEq,abP]
   by_cases a1 : 0 ≤ f.b
   ·by_cases a2 : f.b < e.c.tasks
    ·by_cases a3 : f.b < (e.recs.length : Int)
     ·by_cases a4 : 0 ≤ f.d
      ·by_cases a5 : f.d < e.c.levels
       ·simp only [a1,a2,a3,a4,a5,if_true,and_self]; rfl
       ·simp only [a1,a2,a3,a4,a5,if_true,if_false,and_self,and_false]; rfl
      ·simp only [a1,a2,a3,a4,if_true,if_false,and_self,and_false,false_and]; rfl
     ·simp only [a1,a2,a3,if_true,if_false,and_self,and_false,false_and]; rfl
    ·simp only [a1,a2,if_true,if_false,and_self,and_false,false_and]; rfl
   ·simp only [a1,if_false,false_and]; rfl
  ·simp only [l1,if_false]
   split <;> rfl
 by_cases k18 : f.kind = 18
 ·simp only [k18,if_true,if_false,Int.reduceEq]
  split <;> rfl
 by_cases k22 : f.kind = 22
 ·simp only [k22,if_true,if_false,Int.reduceEq,ak3,Option.bind_some]; rfl
 by_cases k23 : f.kind = 23
 ·simp only [k23,if_true,if_false,Int.reduceEq]
  split <;> rfl
 by_cases k24 : f.kind = 24
 ·simp only [k24,if_true,if_false,Int.reduceEq,anA (p.run k24) p.rc p.cf,Option.bind_some]; rfl
 by_cases k25 : f.kind = 25
 ·simp only [k25,if_true,if_false,Int.reduceEq,ajn,Option.bind_some]; rfl
 by_cases k26 : f.kind = 26
 ·simp only [k26,if_true,if_false,Int.reduceEq,ajo (p.cl k26),Option.bind_some]; rfl
 simp only [k5,k6,k15,k17,k18,k22,k23,k24,k25,k26,if_false]; rfl
end
end
end Go.Proofs.YtkmkhldmflebkaaGreat
