/- Walks by program: the sorts of the program and of its reference. Walks by program: the reference's sort. Walks by program: pictures and their entries,in the program and in its reference. Walks by program: what is ready,and the best of a worker. Walks by program: the reference's pictures. A call whose contract is proved in the present world. -/
import Derived.Test.YtjjbdbbmdhncjaaGreatSzao
set_option linter.all false
namespace Go.Proofs.YtjjbdbbmdhncjaaGreat
section
open Go Go.RowKit
set_option maxRecDepth 100000 in
theorem azc (A:Option Addr) (cap:Nat) (xs:List Int) (lim:Int) (h1:1≤xs.length) (h2:xs.length≤12) (B:Nat) (W:World):Fn_ Tryz.prog 211 #[.slice A xs.length cap,.int .i64 0,.int .i64 (((xs.length:Nat):Int)),.int .i64 lim] B W [abA A xs.length cap 1 (xs.map (Value.int .u64))] (X:=Unit) (fun _ =>.tuple #[]) (fun _ =>[abA A xs.length cap 1 ((ab2 xs).map (Value.int .u64))]):=by
 refine acV Tryz.func211 rfl (m:=134) rfl (Nat.le_of_ble_eq_true rfl) (R:=[(0,.slice A xs.length cap),(1,.int .i64 0),(2,.int .i64 (((xs.length:Nat):Int))),(3,.int .i64 lim)]) (by kernel_rfl) (fun F =>?_)
 refine aag (aaa ?_)
 refine rtn (aab .const).q ?_
 refine aah (aad ?_)
 refine aag (aaa ?_)
 refine rtn (aab .const).q ?_
 refine aah (aad ?_)
 refine aaU ?_
 refine aey (X:=Unit) (fun u =>0) (fun u =>True) (fun u =>[(9,.bool true),(8,.bool true),(0,.slice A xs.length cap),(1,.int .i64 0),(2,.int .i64 (((xs.length:Nat):Int))),(3,.int .i64 lim)]) (fun u =>abA A xs.length cap 1 (xs.map (Value.int .u64))::[F]) () (trivial) (.cons aaf rfl (.cons aap rfl (.cons aaC rfl (.cons aa1 rfl (.cons abk rfl (.cons acU rfl .nil)))))) (Ent.refl) (fun u hi1 =>?_)
 refine aaU ?_
 refine aag (aaa ?_)
 refine rtn (aac (.tmp abk)).q ?_
 refine rtn (aac (.tmp abk)).q ?_
 refine rtn (ae3 (.tmp aap) (.tmp aaf) (w64 (by omega) (by omega))).q ?_
 refine rtn (aab (.tmp aaf)).q ?_
 refine aah (aad ?_)
 refine aag (aag (aaa ?_))
 refine rtn (aac (.tmp aaf)).q ?_
 refine rtn (awB (.tmp aaf) .const).q ?_
 refine aah (aad ?_)
 refine abT (.tmp aaf) (fun h2 =>?_) (fun h2 =>?_)
 ·refine aag (aaa ?_)
  refine rtn (aac (.tmp adK)).q ?_
  refine rtn (aac (.tmp acP)).q ?_
  refine rtn (aac (.tmp aeg)).q ?_
  refine ahi (adj (by kernel_rfl) (.cons (.tmp aaC) (.cons (.tmp aap) (.cons (.tmp aaf) .nil))) (aqq _ _ _ (by omega) (by omega) B W) (.cons aeW .nil)) aae (fun _ =>(aba (by kernel_rfl))) (fun _ =>?_)
  refine aah (aad ?_)
  refine aaz (aao ?_)
  refine abK ?_
  refine aao ?_
  refine abK ?_
  exact aeZ () rfl .nil (by rfl) (Ent.refl)
 ·exact absurd (by omega) h2
set_option maxRecDepth 100000 in
theorem azt (x:Int) (h0:0≤x) (h1:x≤18446744073709551615) (B:Nat) (W:World) (L:List aak):adV Tryz.prog 212 #[.int .u64 x] B W L (.int .i64 (akR x)):=by
 refine aay Tryz.func212 rfl (m:=8) rfl (Nat.le_of_ble_eq_true rfl) (R:=[(0,.int .u64 x)]) (by kernel_rfl) ?_
 refine aag (aaa ?_)
 refine rtn (aab .const).q ?_
 refine aah (aad (aag ?_))
 refine afK .const ?_
 refine aaD ?_
 refine aad (aag (aaa ?_))
 refine rtn (aac (.tmp aap)).q ?_
 refine rtn (aaw (by kernel_rfl) (.cons (.tmp aaf) .nil) (anp _ (by omega) (by omega) B W _)) ?_
 refine aa5 (aab (.tmp aaf)).q aae (aaj awu (by kernel_rfl)) ?_
 refine aah (aad (aaz ?_))
 exact aaN rfl (.cons aaf .nil) (by rfl) Ent.refl
set_option maxRecDepth 100000 in
theorem avs (A:Option Addr) (cap:Nat) (xs:List Int) (h1:1≤xs.length) (h2:xs.length≤12) (B:Nat) (W:World):Fn_ Tryz.prog 208 #[.slice A xs.length cap] B W [abA A xs.length cap 1 (xs.map (Value.int .u64))] (X:=Unit) (fun _ =>.tuple #[]) (fun _ =>[abA A xs.length cap 1 ((ab2 xs).map (Value.int .u64))]):=by
 refine acV Tryz.func208 rfl (m:=11) rfl (Nat.le_of_ble_eq_true rfl) (R:=[(0,.slice A xs.length cap)]) (by kernel_rfl) (fun F =>?_)
 refine aag (aaa ?_)
 refine rtn (aac (.tmp aaf)).q ?_
 refine rtn (adq (.tmp aaf) Tryz.underlying23).q ?_
 refine rtn (aab (.tmp aaf)).q ?_
 refine aah (aad (aaa ?_))
 refine rtn (aac (.tmp aa1)).q ?_
 refine rtn (aac (.tmp aap)).q ?_
 refine rtn (aac (.tmp aaC)).q ?_
 refine rtn (abv (.tmp aaf) Tryz.underlying3 Tryz.underlying235 (avb (by omega) (by omega))).q ?_
 refine rtn (aaw (by kernel_rfl) (.cons (.tmp aaf) .nil) (azt _ (by omega) (by omega) B W _)) ?_
 refine ahi (adj (by kernel_rfl) (.cons (.tmp abk) (.cons .const (.cons (.tmp aa1) (.cons (.tmp aaf) .nil)))) (azc _ _ _ _ (by omega) (by omega) B W) (.cons aeW .nil)) aae (fun _ =>(aba (by kernel_rfl))) (fun _ =>?_)
 refine aah ?_
 exact aqw () rfl .nil (by rfl) (Ent.refl)
set_option maxRecDepth 100000 in
theorem auW (A:Option Addr) (cap:Nat) (xs:List Int) (h1:1≤xs.length) (h2:xs.length≤1024) {B:Nat} {W:World} (hS:Sl afJ 1 W B A xs):Fn_ Tryz.prog 61 #[.slice A xs.length cap] B W [] (X:=Option Addr×Nat) (fun p =>.slice p.1 xs.length p.2) (fun p =>[abA p.1 xs.length p.2 1 (xs.map (Value.int .u64))]):=by
 obtain ⟨ab,ao,rfl,hab,hac⟩:=hS.2 (fun e =>by subst e; simp at h1)
 refine acV Tryz.func61 rfl (m:=8) rfl (Nat.le_of_ble_eq_true rfl) (R:=[(0,.slice (some ⟨ab,ao,none⟩) xs.length cap)]) (by kernel_rfl) (fun F =>?_)
 refine aag (aaa ?_)
 refine rtn (aab .const).q ?_
 refine aah (aad ?_)
 refine aag (aag (aaa ?_))
 refine rtn (aac (.tmp aap)).q ?_
 refine rtn (azg (.tmp aaf) Tryz.underlying23).q ?_
 refine aah (aad ?_)
 refine ajA (.tmp aaf) (fun h1 =>?_) (fun h1 =>?_)
 ·exact absurd h1 (by simp)
 ·refine aaD ?_
  refine aad (aag (aaa ?_))
  refine rtm (acg (T':=38) (us:=[]) .nil (fun _ =>by kernel_rfl)) ?_
  rintro b2
  refine rtn (aac (.tmp abk)).q ?_
  refine aeM (Ent.cons (ad2 (n:=0) (sz:=1) (vs:=List.map (Value.int .u64) []) rfl (by unfold maxLen; omega)) Ent.refl) ?_
  refine rtm (af9 (by_:=8) (z:=.int .u64 0) (us:=xs.map (Value.int .u64)) (.tmp aap) (.tmp aaf) (aDf (fun _ =>rfl) hS rfl) aeW Tryz.underlying23 (adF (by kernel_rfl)) rfl (by decide) (by simp<;>omega) (by simp [List.all_eq_true,acp]) (by unfold maxLen; omega) (by omega)) ?_
  rintro ⟨A3,c3⟩
  refine aeM al7 ?_
  refine aa5 (aab (.tmp aaf)).q aae (aaj arG (by kernel_rfl)) ?_
  refine aah (aad (aaz ?_))
  exact aeZ (A3,c3) rfl (.cons aaf .nil) (by simp only [abN,Nat.zero_add]) (Ent.eq (by simp only [Nat.zero_add,List.nil_append,List.cons_append]))
set_option maxRecDepth 100000 in
theorem amG (A:Option Addr) (cap:Nat) (xs:List Int) (h1:1≤xs.length) (h2:xs.length≤12) {B:Nat} {W:World} (hS:Sl afJ 1 W B A xs):Fn_ Tryz.prog 178 #[.slice A xs.length cap] B W [] (X:=Option Addr×Nat) (fun p =>.slice p.1 xs.length p.2) (fun p =>[abA p.1 xs.length p.2 1 ((ab2 xs).map (Value.int .u64))]):=by
 refine acV Tryz.func178 rfl (m:=9) rfl (Nat.le_of_ble_eq_true rfl) (R:=[(0,.slice A xs.length cap)]) (by kernel_rfl) (fun F =>?_)
 refine aag (aaa ?_)
 refine rtn (aab .const).q ?_
 refine aah (aad ?_)
 refine aag (aaa ?_)
 refine rtn (aac (.tmp aap)).q ?_
 refine rtm (adj (by kernel_rfl) (.cons (.tmp aaf) .nil) (auW _ _ _ (by first | omega | (simp<;>omega)) (by first | omega | (simp<;>omega)) hS) .nil) ?_
 rintro ⟨A1,c1⟩
 refine rtn (aab (.tmp aaf)).q ?_
 refine aah (aad ?_)
 refine aag (aaa ?_)
 refine rtn (aac (.tmp aaf)).q ?_
 refine ahi (adj (by kernel_rfl) (.cons (.tmp aaf) .nil) (avs _ _ _ (by omega) (by omega) B W) (.cons aeW .nil)) aae (fun _ =>(aba (by kernel_rfl))) (fun _ =>?_)
 refine aah (aad ?_)
 refine aag (aaa ?_)
 refine rtn (aac (.tmp aaC)).q ?_
 refine aa5 (aab (.tmp aaf)).q aae (aaj aom (by kernel_rfl)) ?_
 refine aah (aad (aaz ?_))
 exact aeZ (A1,c1) rfl (.cons aaf .nil) (by rfl) Ent.refl
theorem amN {B:Nat} {W:World} {L:List aak} {A:Option Addr} {m c l j cap:Nat} {k:IntKind} {xs:List Int} (h:abA A m c 1 (xs.map (Value.int k))∈L) (hl:l+j≤m) (hc:m≤cap):Src B W L (if cap=l then A else A.map fun a =>a.add (l*1)) j (((xs.drop l).take j).map (Value.int k)):=by
 have:=app (B:=B) (W:=W) (j:=j) h hl hc
 rw [List.map_take,List.map_drop]; exact this
theorem amO {B:Nat} {W:World} {L:List aak} {A:Option Addr} {m c j cap:Nat} {k:IntKind} {xs:List Int} (h:abA A m c 1 (xs.map (Value.int k))∈L) (hl:j≤m) (hc:m≤cap):Src B W L A (j-0) ((xs.take j).map (Value.int k)):=by
 have:=app (B:=B) (W:=W) (j:=j) (l:=0) (cap:=cap) h (by omega) hc
 rw [aDF] at this
 simpa using this
theorem asL {B:Nat} {W:World} {L:List aak} {A:Option Addr} {m c:Nat} {vs:List Value} (h:abA A m c 1 vs∈L) (w:World) (hw:Cls B W L w):m≤c:=(acF hw.2.2 h).2.1
theorem apq {l:List Int} {i j:Nat} (hi:i<l.length) (hj:j≤(ab2 (l.take i)).length) (h1:∀ e∈(ab2 (l.take i)).take j,e≤gi l i) (h2:j=(ab2 (l.take i)).length∨¬ gi (ab2 (l.take i)) j≤gi l i) :
  []++(ab2 (l.take i)).take j++[gi l i]++((ab2 (l.take i)).drop j).take (i-j)=ab2 (l.take (i+1)):=by
 have hl:(ab2 (l.take i)).length=i:=by rw [acB]; simp; omega
 have e:aqp (gi l i) (ab2 (l.take i))=aft (ab2 (l.take i)) (gi l i) j:=arT hj h1 (fun h =>by
  rcases h2 with h2 | h2
  ·omega
  ·have:gi (ab2 (l.take i)) j=(ab2 (l.take i))[j]:=by simp [gi,h]
   omega)
 rw [ahe hi,amP,e]
 unfold aft
 have e2:((ab2 (l.take i)).drop j).take (i-j)=(ab2 (l.take i)).drop j:=List.take_of_length_le (by rw [List.length_drop,hl]; omega)
 rw [e2]; simp
theorem apm {s:List Int} {x:Int} {j:Nat} (hj:j<s.length) (h:∀ e∈s.take j,e≤x) (hx:gi s j≤x):∀ e∈s.take (j+1),e≤x:=by
 intro e he
 rw [ahe hj] at he
 rcases List.mem_append.1 he with h1 | h1
 ·exact h e h1
 ·simp at h1; omega
theorem aEf {L:List aak} {A:Option Addr} {m n c:Nat} {f:Int→Value} {xs ys:List Int} {X:aak} (h:xs=ys) (hn:n=m):Ent (abA A n c 1 (xs.map f)::X::L) (abA A m c 1 (ys.map f)::L):=by
 subst h hn; exact Ent.cons (fun _ h =>h) Ent.drop
set_option maxRecDepth 100000 in
theorem amu (A0:Option Addr) (cap:Nat) (xs:List Int) (h2:xs.length≤64) {B:Nat} {W:World} (hS:Sl afJ 1 W B A0 xs):Fn_ Tryz.prog 129 #[.slice A0 xs.length cap] B W [] (X:=Option Addr×Nat) (fun p =>.slice p.1 xs.length p.2) (fun p =>[abA p.1 xs.length p.2 1 ((ab2 xs).map (Value.int .u64))]):=by
 refine acV Tryz.func129 rfl (m:=48) rfl (Nat.le_of_ble_eq_true rfl) (R:=[(0,.slice A0 xs.length cap)]) (by kernel_rfl) (fun F =>?_)
 refine aag (aaa ?_)
 refine rtn (aab .const).q ?_
 refine aah (aad ?_)
 refine aag (aaa ?_)
 refine rtn (aab .const).q ?_
 refine aah (aad ?_)
 refine aag (aag (aaa ?_))
 refine rtn (aab .const).q ?_
 refine aah (aad ?_)
 refine aaU ?_
 refine amd (afv 1) ?_
 refine agP (X:=Nat) (Y:=Option Addr) (Z:=Nat) (fun i A c =>xs.length-i) (fun i A c =>i≤xs.length) (fun i A c =>[(4,.int .i64 ((i:Int))),(3,.slice A i c),(2,.slice none 0 0),(0,.slice A0 xs.length cap)]) (fun i A c =>abA A i c 1 ((ab2 (xs.take i)).map (Value.int .u64))::[F]) 0 none 0 (by omega) (.cons aaf (congrArg (Value.int .i64) (by first | rfl | omega | (simp; omega) | simp)) (.cons aap (by first | rfl | simp) (.cons aaC rfl (.cons aa1 rfl .nil)))) (Ent.refl) (fun i A c hi1 =>?_)
 have hi0:=hi1
 refine aag (aag (aaa ?_))
 refine rtn (aac (.tmp aaf)).q ?_
 refine rtn (aac (.tmp abk)).q ?_
 refine rtn (adq (.tmp aaf) Tryz.underlying23).q ?_
 refine rtn (abE (.tmp aaC) (.tmp aaf)).q ?_
 refine aah (aad ?_)
 refine abT (.tmp aaf) (fun h2 =>?_) (fun h2 =>?_)
 ·have hsl:(ab2 (xs.take i)).length=i:=by rw [acB]; simp; omega
  refine axG (asL aaf) (fun hcap =>?_)
  refine aaD ?_
  refine aad (aag ?_)
  refine aaU ?_
  refine aag (aaa ?_)
  refine rtn (aab .const).q ?_
  refine aah (aad (aag ?_))
  refine aaU ?_
  refine aey (X:=Nat) (fun j =>i-j) (fun j =>j≤i∧∀ e∈(ab2 (xs.take i)).take j,e≤gi xs i) (fun j =>[(5,.int .i64 ((j:Int))),(10,.bool (decide ((i:Int)<((xs.length:Nat):Int)))),(9,.int .i64 (((xs.length:Nat):Int))),(8,.slice A0 xs.length cap),(7,.int .i64 ((i:Int))),(4,.int .i64 ((i:Int))),(3,.slice A i c),(2,.slice none 0 0),(0,.slice A0 xs.length cap)]) (fun j =>abA A i c 1 ((ab2 (xs.take i)).map (Value.int .u64))::[F]) 0 (⟨by omega,by intro e he; simp at he⟩) (.cons aaf (congrArg (Value.int .i64) (by first | rfl | omega | (simp; omega) | simp)) (.cons aap rfl (.cons aaC rfl (.cons aa1 rfl (.cons abk rfl (.cons acU rfl (.cons adz rfl (.cons aeX rfl (.cons adK rfl .nil))))))))) (Ent.refl) (fun j hi3 =>?_)
  obtain ⟨hjk,hdj⟩:=hi3
  refine aag (aag ?_)
  refine ad4 (by kernel_rfl) (by kernel_rfl) ?_
  refine qtn (aac (.tmp aaf)).q ?_
  refine qtn (aac (.tmp aeX)).q ?_
  refine qtn (adq (.tmp aaf) Tryz.underlying23).q ?_
  refine qtn (abE (.tmp aaC) (.tmp aaf)).q ?_
  refine qtn (aac (.tmp aaf)).q ?_
  refine aok aaR aaR (fun h4 =>?_) (fun h4 =>?_)
  ·refine qts (aac (.tmp acT)).q aaf ?_
   refine qts (aac (.tmp adz)).q aap ?_
   refine qts (acj (i:=j) (.tmp aap) (.tmp aaf) aaf (by omega) (by omega) (by omega) (by kernel_rfl) (Nat.mul_one _)) aaC ?_
   refine qts (adk (i:=j) (.tmp aaf) aaf (agb (by rw [hsl]; omega)) (by kernel_rfl)) aa1 ?_
   refine qts (aac (.tmp ad9)).q abk ?_
   refine qts (aac (.tmp adP)).q acU ?_
   refine qts (ack (i:=i) (.tmp aap) (.tmp aaf) hS (by omega) (by omega) (by omega) (by kernel_rfl) (Nat.mul_one _)).q adz ?_
   refine qts (aci (i:=i) (j:=0) (.tmp aaf) hS (adL (by omega)) rfl (by omega) (by kernel_rfl)) aeX ?_
   refine qts (awB (.tmp abk) (.tmp aaf)).q adK ?_
   refine qtn (aat (b:=true) (.tmp aff) (.tmp aaf)).q ?_
   refine adI (aad ?_)
   refine abT (.tmp aaf) (fun h5 =>?_) (fun h5 =>?_)
   ·refine aaD ?_
    refine aad ?_
    refine aaU ?_
    refine aaa ?_
    refine rtn (aac (.tmp adP)).q ?_
    refine rtn (aaM (.tmp aaf) .const (w64 (by omega) (by omega))).q ?_
    refine aa5 (aab (.tmp aaf)).q aae (aaj ahv (by kernel_rfl)) ?_
    refine aah ?_
    refine aa7 ?_
    exact abW (n:=48) ((j+1)) (⟨by omega,apm (by omega) hdj (by assumption)⟩) (by omega) (.cons aaf (congrArg (Value.int .i64) (by first | rfl | omega | (simp; omega) | simp)) (.cons aeP rfl (.cons aev rfl (.cons (aar aaf) rfl (.cons (aar aap) rfl (.cons (aar aaC) rfl (.cons (aar aa1) rfl (.cons (aar abk) rfl (.cons (aar acU) rfl .nil))))))))) (Ent.refl)
   ·refine aco ?_
    refine aaq ?_
    refine aaq ?_
    refine aaK ?_
    refine aad (aag (aaa ?_))
    refine rtm (acg (T':=38) (us:=[]) .nil (fun _ =>by kernel_rfl)) ?_
    rintro b6
    refine rtn (aac (.tmp (aar aaC))).q ?_
    refine rtn (aac (.tmp ad9)).q ?_
    refine rtn (aga (h':=j) (.tmp aap) Tryz.underlying23 (by kernel_rfl:_=1) (by omega) (adu (.tmp aaf) (by omega)) (by omega)).q ?_
    refine aeM (Ent.cons (ad2 (n:=0) (sz:=1) (vs:=List.map (Value.int .u64) []) rfl (by unfold maxLen; omega)) Ent.refl) ?_
    refine rtm (af9 (by_:=8) (z:=.int .u64 0) (us:=((ab2 (xs.take i)).take j).map (Value.int .u64)) (.tmp aa1) (.tmp aaf) (amO (cap:=c) aap (by omega) (by omega)) aeW Tryz.underlying23 (adF (by kernel_rfl)) rfl (by decide) (by simp<;>omega) alc (by unfold maxLen; omega) (by omega)) ?_
    rintro ⟨A7,c7⟩
    refine aeM al7 ?_
    refine rtn (aab (.tmp aaf)).q ?_
    refine aah (aad ?_)
    refine aag (aaa ?_)
    refine rtn (aac (.tmp aaf)).q ?_
    refine rtn (aac (.tmp (aar acP))).q ?_
    refine rtn (aac (.tmp (aar adK))).q ?_
    refine rtn (ack (i:=i) (.tmp aap) (.tmp aaf) hS (by omega) (by omega) (by omega) (by kernel_rfl) (Nat.mul_one _)).q ?_
    refine rtn (aci (i:=i) (j:=0) (.tmp aaf) hS (adL (by omega)) rfl (by omega) (by kernel_rfl)) ?_
    refine rtm (acg (T':=38) (us:=[.int .u64 ((gi xs i))]) (.cons (.tmp aaf) .nil) (fun _ =>by kernel_rfl)) ?_
    rintro b8
    refine rtm (afq (by_:=8) (z:=.int .u64 0) (.tmp acU) (.tmp aaf) (.cons agv (.cons aeW .nil)) Tryz.underlying23 (adF (by kernel_rfl)) rfl (by decide) rfl rfl (by decide) (by unfold maxLen; omega) (by omega)) ?_
    rintro ⟨A9,c9⟩
    refine aeM agL ?_
    refine aa5 (aab (.tmp aaf)).q aae (aaj ael (by kernel_rfl)) ?_
    refine aah (aad (aaa ?_))
    refine rtn (aac (.tmp aaf)).q ?_
    refine rtn (aac (.tmp (aar adP))).q ?_
    refine rtn (aac (.tmp (aar acP))).q ?_
    refine rtn (afe (l:=j) (.tmp aap) Tryz.underlying23 (by kernel_rfl:_=1) (by omega) (adu (.tmp aaf) (by omega)) (by omega) (by omega) rfl).q ?_
    refine rtm (af9 (by_:=8) (z:=.int .u64 0) (us:=(((ab2 (xs.take i)).drop j).take (i-j)).map (Value.int .u64)) (.tmp aa1) (.tmp aaf) (amN aap (by omega) (by omega)) aeW Tryz.underlying23 (adF (by kernel_rfl)) rfl (by decide) (by simp<;>omega) alc (by unfold maxLen; omega) (by omega)) ?_
    rintro ⟨A10,c10⟩
    refine aeM al7 ?_
    refine aa5 (aab (.tmp aaf)).q aae (aaj (aa0 agY) (by kernel_rfl)) ?_
    refine aah ?_
    refine aa7 ?_
    refine aad (aaa ?_)
    refine rtn (aac (.tmp (aar aev))).q ?_
    refine rtn (aaM (.tmp aaf) .const (w64 (by omega) (by omega))).q ?_
    refine aa5 (aab (.tmp aaf)).q aae (aaj (aa0 (aa0 agv)) (by kernel_rfl)) ?_
    refine aah ?_
    exact adU (n:=48) (i+1) A10 c10 (by omega) (by omega) (.cons aaf (congrArg (Value.int .i64) (by first | rfl | omega | (simp; omega) | simp)) (.cons aa1 (congrArg (fun q =>Value.slice _ q _) (by omega)) (.cons (aar (aar aaC)) rfl (.cons (aar (aar aa1)) rfl .nil)))) (aEf (apq (by omega) (by omega) hdj (by first | exact .inl (by omega) | exact .inr (by assumption))) (by omega))
  ·refine qtk aaf ?_
   refine qtk aap ?_
   refine qtk aaC ?_
   refine qtk aa1 ?_
   refine qtk abk ?_
   refine qtk acU ?_
   refine qtk adz ?_
   refine qtk aeX ?_
   refine qtk adK ?_
   refine qtn (aat (b:=false) (.tmp aff) .const).q ?_
   refine adI (aad ?_)
   refine afK (.tmp aaf) ?_
   refine aco ?_
   refine aaq ?_
   refine aaq ?_
   refine aaK ?_
   refine aad (aag (aaa ?_))
   refine rtm (acg (T':=38) (us:=[]) .nil (fun _ =>by kernel_rfl)) ?_
   rintro b11
   refine rtn (aac (.tmp (aar aaC))).q ?_
   refine rtn (aac (.tmp ad9)).q ?_
   refine rtn (aga (h':=j) (.tmp aap) Tryz.underlying23 (by kernel_rfl:_=1) (by omega) (adu (.tmp aaf) (by omega)) (by omega)).q ?_
   refine aeM (Ent.cons (ad2 (n:=0) (sz:=1) (vs:=List.map (Value.int .u64) []) rfl (by unfold maxLen; omega)) Ent.refl) ?_
   refine rtm (af9 (by_:=8) (z:=.int .u64 0) (us:=((ab2 (xs.take i)).take j).map (Value.int .u64)) (.tmp aa1) (.tmp aaf) (amO (cap:=c) aap (by omega) (by omega)) aeW Tryz.underlying23 (adF (by kernel_rfl)) rfl (by decide) (by simp<;>omega) alc (by unfold maxLen; omega) (by omega)) ?_
   rintro ⟨A12,c12⟩
   refine aeM al7 ?_
   refine rtn (aab (.tmp aaf)).q ?_
   refine aah (aad ?_)
   refine aag (aaa ?_)
   refine rtn (aac (.tmp aaf)).q ?_
   refine rtn (aac (.tmp (aar acP))).q ?_
   refine rtn (aac (.tmp (aar adK))).q ?_
   refine rtn (ack (i:=i) (.tmp aap) (.tmp aaf) hS (by omega) (by omega) (by omega) (by kernel_rfl) (Nat.mul_one _)).q ?_
   refine rtn (aci (i:=i) (j:=0) (.tmp aaf) hS (adL (by omega)) rfl (by omega) (by kernel_rfl)) ?_
   refine rtm (acg (T':=38) (us:=[.int .u64 ((gi xs i))]) (.cons (.tmp aaf) .nil) (fun _ =>by kernel_rfl)) ?_
   rintro b13
   refine rtm (afq (by_:=8) (z:=.int .u64 0) (.tmp acU) (.tmp aaf) (.cons agv (.cons aeW .nil)) Tryz.underlying23 (adF (by kernel_rfl)) rfl (by decide) rfl rfl (by decide) (by unfold maxLen; omega) (by omega)) ?_
   rintro ⟨A14,c14⟩
   refine aeM agL ?_
   refine aa5 (aab (.tmp aaf)).q aae (aaj ael (by kernel_rfl)) ?_
   refine aah (aad (aaa ?_))
   refine rtn (aac (.tmp aaf)).q ?_
   refine rtn (aac (.tmp (aar adP))).q ?_
   refine rtn (aac (.tmp (aar acP))).q ?_
   refine rtn (afe (l:=j) (.tmp aap) Tryz.underlying23 (by kernel_rfl:_=1) (by omega) (adu (.tmp aaf) (by omega)) (by omega) (by omega) rfl).q ?_
   refine rtm (af9 (by_:=8) (z:=.int .u64 0) (us:=(((ab2 (xs.take i)).drop j).take (i-j)).map (Value.int .u64)) (.tmp aa1) (.tmp aaf) (amN aap (by omega) (by omega)) aeW Tryz.underlying23 (adF (by kernel_rfl)) rfl (by decide) (by simp<;>omega) alc (by unfold maxLen; omega) (by omega)) ?_
   rintro ⟨A15,c15⟩
   refine aeM al7 ?_
   refine aa5 (aab (.tmp aaf)).q aae (aaj (aa0 agY) (by kernel_rfl)) ?_
   refine aah ?_
   refine aa7 ?_
   refine aad (aaa ?_)
   refine rtn (aac (.tmp (aar aev))).q ?_
   refine rtn (aaM (.tmp aaf) .const (w64 (by omega) (by omega))).q ?_
   refine aa5 (aab (.tmp aaf)).q aae (aaj (aa0 (aa0 agv)) (by kernel_rfl)) ?_
   refine aah ?_
   exact adU (n:=48) (i+1) A15 c15 (by omega) (by omega) (.cons aaf (congrArg (Value.int .i64) (by first | rfl | omega | (simp; omega) | simp)) (.cons aa1 (congrArg (fun q =>Value.slice _ q _) (by omega)) (.cons (aar (aar aaC)) rfl (.cons (aar (aar aa1)) rfl .nil)))) (aEf (apq (by omega) (by omega) hdj (by first | exact .inl (by omega) | exact .inr (by assumption))) (by omega))
 ·refine aco ?_
  refine aaq ?_
  refine aaq ?_
  refine aaK ?_
  refine aad (aag (aaa ?_))
  refine rtn (aac (.tmp acU)).q ?_
  refine aa5 (aab (.tmp aaf)).q aae (aaj ael (by kernel_rfl)) ?_
  refine aah (aad (aaz ?_))
  obtain rfl:i=xs.length:=by omega
  exact aeZ (A,c) rfl (.cons aaf .nil) (by rfl) (aiI (by rw [List.take_length]))
theorem acQ {L M:List aak} {A:Option Addr} {m n c:Nat} {f:Int→Value} {xs ys:List Int} (h:xs=ys) (hn:n=m) (hE:Ent L M):Ent (abA A n c 1 (xs.map f)::L) (abA A m c 1 (ys.map f)::M):=by
 subst h hn; exact Ent.cons (fun _ h =>h) hE
theorem adb {L M:List aak} {n:Nat} {f:Int→Value} {xs:List Int} (h:xs=[]) (hn:n=0) (hE:Ent L M):Ent L (abA none n 0 1 (xs.map f)::M):=by
 subst h hn; exact hE.trans (afv 1)
theorem am0 {f:Nat→Int} {i:Nat}:(List.range i).map f++[f i]=(List.range (i+1)).map f:=by rw [List.range_succ,List.map_append]; rfl
theorem adY {c:Cfg} {cs:List Int} {w l:Int} (h:aqN c cs w l<1∨c.deque<aqN c cs w l):ae0 c cs w l=[]:=by unfold ae0; exact if_pos h
theorem atu {c:Cfg} {cs:List Int} {w l:Int} (h:¬ aqN c cs w l<1) (h2:¬ c.deque<aqN c cs w l):ae0 c cs w l=(List.range (aqN c cs w l).toNat).map (azU c cs w l (ad8 cs (acZ c w l))):=by unfold ae0; exact if_neg (by omega)
theorem aoT {c:Cfg} {cs:List Int} {w l:Int} (hd:c.deque≤64):(ae0 c cs w l).length≤64:=by
 unfold ae0; split
 ·simp
 ·simp; omega
theorem asw (a:Int):0≤IntKind.u64.wrap a∧IntKind.u64.wrap a≤18446744073709551615:=by
 simp only [IntKind.wrap,IntKind.bits,IntKind.signed]; simp; omega
set_option maxRecDepth 100000 in
theorem aiE (c:Cfg) (l:CfgAt) (CA:Option Addr) (cc:Nat) (cs:List Int) (x:Int) (hv:abB c=0) (hn:CNums c) (hl:(cs.length:Int)=aaQ c) (h0:0≤x) (h1:x<c.workers) {B:Nat} {W:World} (hS:Sl afJ 1 W B CA cs) (hcw:CWf cs) (hc:acR W B c l) (L:List aak):adV Tryz.prog 71 #[acM c l,.slice CA cs.length cc,.int .i64 x] B W L (.tuple #[.agg (pcL c l CA cc cs).toArray,.bool true]):=by
 refine aay Tryz.func71 rfl (m:=39) rfl (Nat.le_of_ble_eq_true rfl) (R:=[(0,acM c l),(1,.slice CA cs.length cc),(2,.int .i64 x)]) (by kernel_rfl) ?_
 refine aag (aaa ?_)
 refine rtm (abX (.tmp aaf) (us:=(cfL c l)) rfl) ?_
 rintro b1
 refine rtm (acd (v:=.agg zeL.toArray) (us:=zeL) (by kernel_rfl) rfl) ?_
 rintro b2
 refine rtn (aab .const).q ?_
 refine aah (aad ?_)
 refine aag (aaa ?_)
 refine rtn (aaB (o:=0) (i:=0) (k:=11) (us:=(cfL c l)) (.tmp aaC) aap (rfl) (by kernel_rfl) rfl rfl) ?_
 refine rtn (aaw (by kernel_rfl) (.cons (.tmp aaf) .nil) (alS c l hv hc _)) ?_
 refine rtn (aac (.tmp aaf)).q ?_
 refine rtn (aaA (.tmp aaf) rfl).q ?_
 refine rtn (aaA (.tmp aap) rfl).q ?_
 refine rtm (acd (v:=.agg zyL.toArray) (us:=zyL) (by kernel_rfl) rfl) ?_
 rintro b3
 refine ahi (abg (o:=0) (i:=0) (k:=11) (us:=(lyL c)) (ws:=(lyL c)) (.tmp aaf) (.tmp aaC) aaR (rfl) (by kernel_rfl) rfl (by decide) rfl rfl (by simp) rfl) aae (fun _ =>aa3) (fun _ =>?_)
 refine rtn (aab (.tmp aap)).q ?_
 refine aah (aad ?_)
 refine aag (aag (aaa ?_))
 refine rtn (aac (.tmp aaf)).q ?_
 refine rtn (agZ (.tmp aaf) .const).q ?_
 refine rtn (aac (.tmp aaf)).q ?_
 refine abm aaR aaR (fun h4 =>?_) (fun h4 =>?_)
 ·exact absurd rfl h4
 ·refine rts (aac (.tmp aew)).q aaf ?_
  refine rts (adq (.tmp aaf) Tryz.underlying23).q aap ?_
  refine rts (aaB (o:=0) (i:=0) (k:=11) (us:=(lyL c)) (.tmp adz) aaf (rfl) (by kernel_rfl) rfl rfl) aaC ?_
  refine rts (aaw (by kernel_rfl) (.cons (.tmp aaf) .nil) (ajs c hn B W _)) aa1 ?_
  refine rts (agZ (.tmp aaC) (.tmp aaf)).q abk ?_
  refine rtn (aat (b:=false) (.tmp acU) (.tmp aaf)).q ?_
  refine rtn (aac (.tmp aaf)).q ?_
  refine abm aaR aaR (fun h5 =>?_) (fun h5 =>?_)
  ·exact absurd h5 (by omega)
  ·refine rts (aac (.tmp (aar aaC))).q aaf ?_
   refine rts (abE (.tmp aaf) .const).q aap ?_
   refine rtn (aat (b:=false) (.tmp aaC) (.tmp aaf)).q ?_
   refine rtn (aac (.tmp aaf)).q ?_
   refine abm aaR aaR (fun h6 =>?_) (fun h6 =>?_)
   ·exact absurd h6 (by omega)
   ·refine rts (aac (.tmp (aar adz))).q aaf ?_
    refine rts (aan (k:=0) (o':=0) (.tmp (aar abk)) (by kernel_rfl) (by rfl)).q aap ?_
    refine rts (aax (o:=0) (i:=0) (.tmp aaf) aaC (rfl) rfl (by kernel_rfl)) aaC ?_
    refine rts (acr (.tmp aaC) (.tmp aaf)).q aa1 ?_
    refine rtn (aat (b:=false) (.tmp abk) (.tmp aaf)).q ?_
    refine aah (aad ?_)
    refine abT (.tmp aaf) (fun h7 =>?_) (fun h7 =>?_)
    ·exact absurd h7 (by omega)
    ·refine aaD ?_
     refine aad (aag (aaa ?_))
     refine rtn (aaB (o:=0) (i:=0) (k:=11) (us:=(cfL c l)) (.tmp (aar adK)) aaC (rfl) (by kernel_rfl) rfl rfl) ?_
     refine rtn (aaB (o:=0) (i:=0) (k:=11) (us:=(lyL c)) (.tmp (aar aap)) aaf (rfl) (by kernel_rfl) rfl rfl) ?_
     refine rtn (aac (.tmp (aar aeg))).q ?_
     refine rtn (aeE (v:=.agg (pcL c l CA cc cs).toArray) (.cons (.tmp aaC) (.cons (.tmp aap) (.cons (.tmp aaf) .nil))) (fun _ =>by kernel_rfl)).q ?_
     refine ahi (abg (o:=0) (i:=0) (k:=23) (us:=(pcL c l CA cc cs)) (ws:=(pcL c l CA cc cs)) (.tmp (aar acT)) (.tmp aaf) aqX (rfl) (by kernel_rfl) rfl (by decide) rfl rfl (by simp) rfl) aae (fun _ =>aa3) (fun _ =>?_)
     refine aa5 (aab .const).q aae (aaj (aa0 akz) (by kernel_rfl)) ?_
     refine aah (aad (aaz ?_))
     exact aaN rfl (.cellA (m:=23) (ws:=(pcL c l CA cc cs)) (aar acT) aap (by kernel_rfl) rfl rfl (.cons aaf .nil)) (by rfl) (Ent.drop.trans (Ent.drop.trans Ent.drop))
set_option maxRecDepth 100000 in
theorem ann (c:Cfg) (l:CfgAt) (CA:Option Addr) (cc:Nat) (cs:List Int) (x:Int) (hv:abB c=0) (hn:CNums c) (hb:¬ ((cs.length:Int)=aaQ c∧0≤x∧x<c.workers)) {B:Nat} {W:World} (hS:Sl afJ 1 W B CA cs) (hcw:CWf cs) (hc:acR W B c l) (L:List aak):adV Tryz.prog 71 #[acM c l,.slice CA cs.length cc,.int .i64 x] B W L (.tuple #[.agg zeL.toArray,.bool false]):=by
 refine aay Tryz.func71 rfl (m:=39) rfl (Nat.le_of_ble_eq_true rfl) (R:=[(0,acM c l),(1,.slice CA cs.length cc),(2,.int .i64 x)]) (by kernel_rfl) ?_
 refine aag (aaa ?_)
 refine rtm (abX (.tmp aaf) (us:=(cfL c l)) rfl) ?_
 rintro b1
 refine rtm (acd (v:=.agg zeL.toArray) (us:=zeL) (by kernel_rfl) rfl) ?_
 rintro b2
 refine rtn (aab .const).q ?_
 refine aah (aad ?_)
 refine aag (aaa ?_)
 refine rtn (aaB (o:=0) (i:=0) (k:=11) (us:=(cfL c l)) (.tmp aaC) aap (rfl) (by kernel_rfl) rfl rfl) ?_
 refine rtn (aaw (by kernel_rfl) (.cons (.tmp aaf) .nil) (alS c l hv hc _)) ?_
 refine rtn (aac (.tmp aaf)).q ?_
 refine rtn (aaA (.tmp aaf) rfl).q ?_
 refine rtn (aaA (.tmp aap) rfl).q ?_
 refine rtm (acd (v:=.agg zyL.toArray) (us:=zyL) (by kernel_rfl) rfl) ?_
 rintro b3
 refine ahi (abg (o:=0) (i:=0) (k:=11) (us:=(lyL c)) (ws:=(lyL c)) (.tmp aaf) (.tmp aaC) aaR (rfl) (by kernel_rfl) rfl (by decide) rfl rfl (by simp) rfl) aae (fun _ =>aa3) (fun _ =>?_)
 refine rtn (aab (.tmp aap)).q ?_
 refine aah (aad ?_)
 refine aag (aag (aaa ?_))
 refine rtn (aac (.tmp aaf)).q ?_
 refine rtn (agZ (.tmp aaf) .const).q ?_
 refine rtn (aac (.tmp aaf)).q ?_
 refine abm aaR aaR (fun h4 =>?_) (fun h4 =>?_)
 ·exact absurd rfl h4
 ·refine rts (aac (.tmp aew)).q aaf ?_
  refine rts (adq (.tmp aaf) Tryz.underlying23).q aap ?_
  refine rts (aaB (o:=0) (i:=0) (k:=11) (us:=(lyL c)) (.tmp adz) aaf (rfl) (by kernel_rfl) rfl rfl) aaC ?_
  refine rts (aaw (by kernel_rfl) (.cons (.tmp aaf) .nil) (ajs c hn B W _)) aa1 ?_
  refine rts (agZ (.tmp aaC) (.tmp aaf)).q abk ?_
  refine rtn (aat (b:=false) (.tmp acU) (.tmp aaf)).q ?_
  refine rtn (aac (.tmp aaf)).q ?_
  refine abm aaR aaR (fun h5 =>?_) (fun h5 =>?_)
  ·refine rtk aaf ?_
   refine rtk aap ?_
   refine rtn (aat (b:=true) (.tmp aaC) .const).q ?_
   refine rtn (aac (.tmp aaf)).q ?_
   refine rtk aaf ?_
   refine rtk aap ?_
   refine rtk aaC ?_
   refine rtk aa1 ?_
   refine rtn (aat (b:=true) (.tmp abk) .const).q ?_
   refine aah (aad ?_)
   refine acz (.tmp aaf) ?_
   refine aag (aaa ?_)
   refine rtn (aeE (v:=.agg zeL.toArray) .nil (fun _ =>by kernel_rfl)).q ?_
   refine ahi (abg (o:=0) (i:=0) (k:=23) (us:=zeL) (ws:=zeL) (.tmp (aar adK)) (.tmp aaf) aqX (rfl) (by kernel_rfl) rfl (by decide) rfl rfl (by simp) rfl) aae (fun _ =>aa3) (fun _ =>?_)
   refine aa5 (aab .const).q aae (aaj (aa0 ael) (by kernel_rfl)) ?_
   refine aah (aad ?_)
   refine aaz (aao ?_)
   exact aaN rfl (.cellA (m:=23) (ws:=zeL) (aar adK) aap (by kernel_rfl) rfl rfl (.cons aaf .nil)) (by first | rfl | (exfalso; omega)) (Ent.drop.trans (Ent.drop.trans Ent.drop))
  ·refine rts (aac (.tmp (aar aaC))).q aaf ?_
   refine rts (abE (.tmp aaf) .const).q aap ?_
   refine rtn (aat (b:=false) (.tmp aaC) (.tmp aaf)).q ?_
   refine rtn (aac (.tmp aaf)).q ?_
   refine abm aaR aaR (fun h6 =>?_) (fun h6 =>?_)
   ·refine rtk aaf ?_
    refine rtk aap ?_
    refine rtk aaC ?_
    refine rtk aa1 ?_
    refine rtn (aat (b:=true) (.tmp abk) .const).q ?_
    refine aah (aad ?_)
    refine acz (.tmp aaf) ?_
    refine aag (aaa ?_)
    refine rtn (aeE (v:=.agg zeL.toArray) .nil (fun _ =>by kernel_rfl)).q ?_
    refine ahi (abg (o:=0) (i:=0) (k:=23) (us:=zeL) (ws:=zeL) (.tmp (aar adK)) (.tmp aaf) aqX (rfl) (by kernel_rfl) rfl (by decide) rfl rfl (by simp) rfl) aae (fun _ =>aa3) (fun _ =>?_)
    refine aa5 (aab .const).q aae (aaj (aa0 ael) (by kernel_rfl)) ?_
    refine aah (aad ?_)
    refine aaz (aao ?_)
    exact aaN rfl (.cellA (m:=23) (ws:=zeL) (aar adK) aap (by kernel_rfl) rfl rfl (.cons aaf .nil)) (by first | rfl | (exfalso; omega)) (Ent.drop.trans (Ent.drop.trans Ent.drop))
   ·refine rts (aac (.tmp (aar adz))).q aaf ?_
    refine rts (aan (k:=0) (o':=0) (.tmp (aar abk)) (by kernel_rfl) (by rfl)).q aap ?_
    refine rts (aax (o:=0) (i:=0) (.tmp aaf) aaC (rfl) rfl (by kernel_rfl)) aaC ?_
    refine rts (acr (.tmp aaC) (.tmp aaf)).q aa1 ?_
    refine rtn (aat (b:=false) (.tmp abk) (.tmp aaf)).q ?_
    refine aah (aad ?_)
    refine abT (.tmp aaf) (fun h7 =>?_) (fun h7 =>?_)
    ·refine aag (aaa ?_)
     refine rtn (aeE (v:=.agg zeL.toArray) .nil (fun _ =>by kernel_rfl)).q ?_
     refine ahi (abg (o:=0) (i:=0) (k:=23) (us:=zeL) (ws:=zeL) (.tmp (aar adK)) (.tmp aaf) aqX (rfl) (by kernel_rfl) rfl (by decide) rfl rfl (by simp) rfl) aae (fun _ =>aa3) (fun _ =>?_)
     refine aa5 (aab .const).q aae (aaj (aa0 ael) (by kernel_rfl)) ?_
     refine aah (aad ?_)
     refine aaz (aao ?_)
     exact aaN rfl (.cellA (m:=23) (ws:=zeL) (aar adK) aap (by kernel_rfl) rfl rfl (.cons aaf .nil)) (by first | rfl | (exfalso; omega)) (Ent.drop.trans (Ent.drop.trans Ent.drop))
    ·refine aaD ?_
     refine aad (aag (aaa ?_))
     refine rtn (aaB (o:=0) (i:=0) (k:=11) (us:=(cfL c l)) (.tmp (aar adK)) aaC (rfl) (by kernel_rfl) rfl rfl) ?_
     refine rtn (aaB (o:=0) (i:=0) (k:=11) (us:=(lyL c)) (.tmp (aar aap)) aaf (rfl) (by kernel_rfl) rfl rfl) ?_
     refine rtn (aac (.tmp (aar aeg))).q ?_
     refine rtn (aeE (v:=.agg (pcL c l CA cc cs).toArray) (.cons (.tmp aaC) (.cons (.tmp aap) (.cons (.tmp aaf) .nil))) (fun _ =>by kernel_rfl)).q ?_
     refine ahi (abg (o:=0) (i:=0) (k:=23) (us:=(pcL c l CA cc cs)) (ws:=(pcL c l CA cc cs)) (.tmp (aar acT)) (.tmp aaf) aqX (rfl) (by kernel_rfl) rfl (by decide) rfl rfl (by simp) rfl) aae (fun _ =>aa3) (fun _ =>?_)
     refine aa5 (aab .const).q aae (aaj (aa0 akz) (by kernel_rfl)) ?_
     refine aah (aad (aaz ?_))
     exact aaN rfl (.cellA (m:=23) (ws:=(pcL c l CA cc cs)) (aar acT) aap (by kernel_rfl) rfl rfl (.cons aaf .nil)) (by first | rfl | (exfalso; omega)) (Ent.drop.trans (Ent.drop.trans Ent.drop))
set_option maxRecDepth 100000 in
theorem anm (c:Cfg) (l:CfgAt) (CA:Option Addr) (cc:Nat) (cs:List Int) (x:Int) (hv:abB c≠0) {B:Nat} {W:World} (hS:Sl afJ 1 W B CA cs) (hcw:CWf cs) (hc:acR W B c l) (L:List aak):adV Tryz.prog 71 #[acM c l,.slice CA cs.length cc,.int .i64 x] B W L (.tuple #[.agg zeL.toArray,.bool false]):=by
 refine aay Tryz.func71 rfl (m:=39) rfl (Nat.le_of_ble_eq_true rfl) (R:=[(0,acM c l),(1,.slice CA cs.length cc),(2,.int .i64 x)]) (by kernel_rfl) ?_
 refine aag (aaa ?_)
 refine rtm (abX (.tmp aaf) (us:=(cfL c l)) rfl) ?_
 rintro b1
 refine rtm (acd (v:=.agg zeL.toArray) (us:=zeL) (by kernel_rfl) rfl) ?_
 rintro b2
 refine rtn (aab .const).q ?_
 refine aah (aad ?_)
 refine aag (aaa ?_)
 refine rtn (aaB (o:=0) (i:=0) (k:=11) (us:=(cfL c l)) (.tmp aaC) aap (rfl) (by kernel_rfl) rfl rfl) ?_
 refine rtn (aaw (by kernel_rfl) (.cons (.tmp aaf) .nil) (auB c l hv hc _)) ?_
 refine rtn (aac (.tmp aaf)).q ?_
 refine rtn (aaA (.tmp aaf) rfl).q ?_
 refine rtn (aaA (.tmp aap) rfl).q ?_
 refine rtm (acd (v:=.agg zyL.toArray) (us:=zyL) (by kernel_rfl) rfl) ?_
 rintro b3
 refine ahi (abg (o:=0) (i:=0) (k:=11) (us:=zyL) (ws:=zyL) (.tmp aaf) (.tmp aaC) aaR (rfl) (by kernel_rfl) rfl (by decide) rfl rfl (by simp) rfl) aae (fun _ =>aa3) (fun _ =>?_)
 refine rtn (aab (.tmp aap)).q ?_
 refine aah (aad ?_)
 refine aag (aag (aaa ?_))
 refine rtn (aac (.tmp aaf)).q ?_
 refine rtn (agZ (.tmp aaf) .const).q ?_
 refine rtn (aac (.tmp aaf)).q ?_
 refine abm aaR aaR (fun h4 =>?_) (fun h4 =>?_)
 ·refine rtk aaf ?_
  refine rtk aap ?_
  refine rtk aaC ?_
  refine rtk aa1 ?_
  refine rtk abk ?_
  refine rtn (aat (b:=true) (.tmp acU) .const).q ?_
  refine rtn (aac (.tmp aaf)).q ?_
  refine rtk aaf ?_
  refine rtk aap ?_
  refine rtn (aat (b:=true) (.tmp aaC) .const).q ?_
  refine rtn (aac (.tmp aaf)).q ?_
  refine rtk aaf ?_
  refine rtk aap ?_
  refine rtk aaC ?_
  refine rtk aa1 ?_
  refine rtn (aat (b:=true) (.tmp abk) .const).q ?_
  refine aah (aad ?_)
  refine acz (.tmp aaf) ?_
  refine aag (aaa ?_)
  refine rtn (aeE (v:=.agg zeL.toArray) .nil (fun _ =>by kernel_rfl)).q ?_
  refine ahi (abg (o:=0) (i:=0) (k:=23) (us:=zeL) (ws:=zeL) (.tmp (aar adK)) (.tmp aaf) aqX (rfl) (by kernel_rfl) rfl (by decide) rfl rfl (by simp) rfl) aae (fun _ =>aa3) (fun _ =>?_)
  refine aa5 (aab .const).q aae (aaj (aa0 ael) (by kernel_rfl)) ?_
  refine aah (aad ?_)
  refine aaz (aao ?_)
  exact aaN rfl (.cellA (m:=23) (ws:=zeL) (aar adK) aap (by kernel_rfl) rfl rfl (.cons aaf .nil)) (by rfl) (Ent.drop.trans (Ent.drop.trans Ent.drop))
 ·exact absurd hv h4
set_option maxRecDepth 100000 in
theorem akG (c:Cfg) (l:CfgAt) (CA:Option Addr) (cc:Nat) (cs:List Int) (hn:CNums c) (hl:(cs.length:Int)=aaQ c) (w v:Int) (hw:0≤w∧w<c.workers) (hv:0≤v∧v<c.levels) {B:Nat} {W:World} (hS:Sl afJ 1 W B CA cs) (hcw:CWf cs):Fn_ Tryz.prog 77 #[.agg (pcL c l CA cc cs).toArray,.int .i64 w,.int .i64 v] B W [] (X:=Option Addr×Nat) (fun p =>.slice p.1 (ae0 c cs w v).length p.2) (fun p =>[abA p.1 (ae0 c cs w v).length p.2 1 ((ae0 c cs w v).map (Value.int .i64))]):=by
 obtain ⟨q1,q2,q3,q4,q5,q6⟩:=asz hn hw hv
 obtain ⟨t1,t2,t3,t4,t5⟩:=afw hn
 have hd:=hn.d
 have ht:=hn.t
 have hcl:aaQ c=abh c+5*c.tasks:=rfl
 have hen:aqN c cs w v=(ara (gi cs (acZ c w v+1).toNat) (gi cs (acZ c w v).toNat)):=rfl
 refine acV Tryz.func77 rfl (m:=61) rfl (Nat.le_of_ble_eq_true rfl) (R:=[(0,.agg (pcL c l CA cc cs).toArray),(1,.int .i64 w),(2,.int .i64 v)]) (by kernel_rfl) (fun F =>?_)
 refine aag (aaa ?_)
 refine rtm (abX (.tmp aaf) (us:=(pcL c l CA cc cs)) rfl) ?_
 rintro b1
 refine rtn (aab .const).q ?_
 refine aah (aad ?_)
 refine aag (aaa ?_)
 refine rtn (aan (k:=11) (o':=11) (.tmp aap) (by kernel_rfl) (by rfl)).q ?_
 refine rtn (aaB (o:=0) (i:=11) (k:=11) (us:=(lyL c)) (.tmp aaf) aaf (rfl) (by kernel_rfl) rfl rfl) ?_
 refine rtn (aac (.tmp acU)).q ?_
 refine rtn (aac (.tmp aeX)).q ?_
 refine rtn (aaw (by kernel_rfl) (.cons (.tmp aaC) (.cons (.tmp aap) (.cons (.tmp aaf) .nil))) (aoy c hn _ _ (by omega) (by omega) B W _)) ?_
 refine rtm (acd (v:=.agg #[.int .i64 0,.int .i64 0,.int .i64 0,.int .i64 0]) (us:=[.int .i64 0,.int .i64 0,.int .i64 0,.int .i64 0]) (by kernel_rfl) rfl) ?_
 rintro b2
 refine ahi (abg (o:=0) (i:=0) (k:=4) (us:=[.int .i64 ((acZ c w v)),.int .i64 ((acZ c w v+1)),.int .i64 ((acZ c w v+2)),.int .i64 c.deque]) (ws:=[.int .i64 ((acZ c w v)),.int .i64 ((acZ c w v+1)),.int .i64 ((acZ c w v+2)),.int .i64 c.deque]) (.tmp aaf) (.tmp aap) aaR (rfl) (by kernel_rfl) rfl (by decide) rfl rfl (by simp) rfl) aae (fun _ =>aa3) (fun _ =>?_)
 refine aah (aad (aag ?_))
 refine ad4 (by kernel_rfl) (by kernel_rfl) ?_
 refine qtn (aan (k:=22) (o':=22) (.tmp aeX) (by kernel_rfl) (by rfl)).q ?_
 refine qtn (aax (o:=0) (i:=22) (.tmp aaf) aap (rfl) rfl (by kernel_rfl)) ?_
 refine qtn (aan (k:=0) (o':=0) (.tmp aaC) (by kernel_rfl) (by rfl)).q ?_
 refine qtn (aax (o:=0) (i:=0) (.tmp aaf) aaf (rfl) rfl (by kernel_rfl)) ?_
 refine qtn (ack (i:=((acZ c w v)).toNat) (.tmp aaC) (.tmp aaf) hS (by omega) (by omega) (by omega) (by kernel_rfl) (Nat.mul_one _)).q ?_
 refine qtn (aci (i:=((acZ c w v)).toNat) (j:=0) (.tmp aaf) hS (adL (by omega)) rfl (by omega) (by kernel_rfl)) ?_
 refine qtn (aan (k:=22) (o':=22) (.tmp ad3) (by kernel_rfl) (by rfl)).q ?_
 refine qtn (aax (o:=0) (i:=22) (.tmp aaf) aap (rfl) rfl (by kernel_rfl)) ?_
 refine qtn (aan (k:=1) (o':=1) (.tmp adK) (by kernel_rfl) (by rfl)).q ?_
 refine qtn (aax (o:=0) (i:=1) (.tmp aaf) aaf (rfl) rfl (by kernel_rfl)) ?_
 refine qtn (ack (i:=((acZ c w v+1)).toNat) (.tmp aaC) (.tmp aaf) hS (by omega) (by omega) (by omega) (by kernel_rfl) (Nat.mul_one _)).q ?_
 refine qtn (aci (i:=((acZ c w v+1)).toNat) (j:=0) (.tmp aaf) hS (adL (by omega)) rfl (by omega) (by kernel_rfl)) ?_
 refine qtn (aab (.tmp adz)).q ?_
 refine qtn (aab (.tmp aap)).q ?_
 refine adI (aad ?_)
 refine aag (aaa ?_)
 refine rtn (aac (.tmp aaf)).q ?_
 refine rtn (aac (.tmp aaC)).q ?_
 refine rtn (aaw (by kernel_rfl) (.cons (.tmp aap) (.cons (.tmp aaf) .nil)) (avx _ _ B W _)) ?_
 refine rtn (aab (.tmp aaf)).q ?_
 refine aah (aad ?_)
 refine aag (aag (aaa ?_))
 refine rtn (aac (.tmp aaf)).q ?_
 refine rtn (abE (.tmp aaf) .const).q ?_
 refine rtn (aac (.tmp aaf)).q ?_
 refine abm aaR aaR (fun h3 =>?_) (fun h3 =>?_)
 ·refine rtk aaf ?_
  refine rtk aap ?_
  refine rtk aaC ?_
  refine rtk aa1 ?_
  refine rtn (aat (b:=true) (.tmp abk) .const).q ?_
  refine aah (aad ?_)
  refine acz (.tmp aaf) ?_
  refine aag (aaa ?_)
  refine aa5 (aab .const).q aae (aaj (aa0 afH) (by kernel_rfl)) ?_
  refine aah (aad ?_)
  refine aaz (aao ?_)
  exact aeZ (none,0) rfl (.cons aaf .nil) (by rw [adY (by omega)]; rfl) (adb (adY (by omega)) (by rw [adY (by omega)]; rfl) (Ent.drop.trans Ent.drop))
 ·refine rts (aac (.tmp aa1)).q aaf ?_
  refine rts (aan (k:=3) (o':=3) (.tmp (aar aaC)) (by kernel_rfl) (by rfl)).q aap ?_
  refine rts (aax (o:=0) (i:=3) (.tmp aaf) aaf (rfl) rfl (by kernel_rfl)) aaC ?_
  refine rts (afI (.tmp aaC) (.tmp aaf)).q aa1 ?_
  refine rtn (aat (b:=false) (.tmp abk) (.tmp aaf)).q ?_
  refine aah (aad ?_)
  refine abT (.tmp aaf) (fun h4 =>?_) (fun h4 =>?_)
  ·refine aag (aaa ?_)
   refine aa5 (aab .const).q aae (aaj (aa0 afH) (by kernel_rfl)) ?_
   refine aah (aad ?_)
   refine aaz (aao ?_)
   exact aeZ (none,0) rfl (.cons aaf .nil) (by rw [adY (by omega)]; rfl) (adb (adY (by omega)) (by rw [adY (by omega)]; rfl) (Ent.drop.trans Ent.drop))
  ·refine aaD ?_
   refine aad (aag (aaa ?_))
   refine rtn (aab .const).q ?_
   refine aah (aad ?_)
   refine aag (aag (aaa ?_))
   refine rtn (aac (.tmp aff)).q ?_
   refine rtn (aac .const).q ?_
   refine aah (aad ?_)
   refine aaU ?_
   refine amd (afv 1) ?_
   refine agP (X:=Nat) (Y:=Option Addr) (Z:=Nat) (fun i A cx =>(aqN c cs w v).toNat-i) (fun i A cx =>i≤(aqN c cs w v).toNat) (fun i A cx =>[(42,.int .i64 ((i:Int))),(41,.int .i64 ((ara ((gi cs (((acZ c w v+1)).toNat))) ((gi cs (((acZ c w v)).toNat)))))),(11,.slice A i cx),(8,.int .u64 ((gi cs (((acZ c w v)).toNat)))),(7,.pointer (some ⟨b2,0,none⟩)),(6,.slice none 0 0),(3,.pointer (some ⟨b1,0,none⟩))]) (fun i A cx =>abA A i cx 1 (((List.range i).map (azU c cs w v (ad8 cs (acZ c w v)))).map (Value.int .i64))::pts b2 0 [.int .i64 ((acZ c w v)),.int .i64 ((acZ c w v+1)),.int .i64 ((acZ c w v+2)),.int .i64 c.deque]::pts b1 0 (pcL c l CA cc cs)::[F]) 0 none 0 (by omega) (.cons aaf (congrArg (Value.int .i64) (by first | rfl | omega | (simp; omega) | simp)) (.cons aap rfl (.cons aaC (by first | rfl | simp) (.cons aem rfl (.cons (aar aff) rfl (.cons (aar adP) rfl (.cons (aar aem) rfl .nil))))))) (Ent.refl) (fun i A cx hi5 =>?_)
   have hi0:=hi5
   refine aag (aaa ?_)
   refine rtn (abE (.tmp aaf) (.tmp aap)).q ?_
   refine aah (aad (aag ?_))
   refine abT (.tmp aaf) (fun h6 =>?_) (fun h6 =>?_)
   ·refine aaD ?_
    refine aad (aag ?_)
    refine aaU ?_
    refine aag (aaa ?_)
    refine rtn (aac (.tmp aap)).q ?_
    refine rtn (aab (.tmp aaf)).q ?_
    refine aah (aad ?_)
    refine axH 15 (by kernel_rfl) rfl (listed:=#[false,false,false,false,false,false,false,false,false,false,false,false,false,false,false]) rfl ?_
    refine acD 0 (by kernel_rfl) (l':=#[true,false,false,false,false,false,false,false,false,false,false,false,false,false,false]) rfl rfl rfl (aac (.tmp acU)) aae (aba (by kernel_rfl)) ?_
    refine acD 1 (by kernel_rfl) (l':=#[true,true,false,false,false,false,false,false,false,false,false,false,false,false,false]) rfl rfl rfl (aan (k:=22) (o':=22) (.tmp acP) (by kernel_rfl) (by rfl)) aae (aba (by kernel_rfl)) ?_
    refine acD 4 (by kernel_rfl) (l':=#[true,true,false,false,true,false,false,false,false,false,false,false,false,false,false]) rfl rfl rfl (aac (.tmp adK)) aae (aba (by kernel_rfl)) ?_
    refine acD 5 (by kernel_rfl) (l':=#[true,true,false,false,true,true,false,false,false,false,false,false,false,false,false]) rfl rfl rfl (aac (.tmp aa1)) aae (aba (by kernel_rfl)) ?_
    refine acD 6 (by kernel_rfl) (l':=#[true,true,false,false,true,true,true,false,false,false,false,false,false,false,false]) rfl rfl rfl (abv (.tmp aaf) Tryz.underlying3 Tryz.underlying38 (avb (by omega) (by omega))) aae (aba (by kernel_rfl)) ?_
    refine acD 7 (by kernel_rfl) (l':=#[true,true,false,false,true,true,true,true,false,false,false,false,false,false,false]) rfl rfl rfl (aaM (.tmp aaC) (.tmp aaf) rfl) aae (aba (by kernel_rfl)) ?_
    refine ao8 [2,3,8,9] 5 rfl (by kernel_rfl) (l':=#[true,true,true,true,true,true,true,true,true,true,false,false,false,false,false]) rfl ?_
    refine qtn (aax (o:=0) (i:=22) (.tmp abk) aaC (rfl) rfl (by kernel_rfl)) ?_
    refine qtn (aaB (o:=0) (i:=0) (k:=4) (us:=[.int .i64 ((acZ c w v)),.int .i64 ((acZ c w v+1)),.int .i64 ((acZ c w v+2)),.int .i64 c.deque]) (.tmp aew) aap (rfl) (by kernel_rfl) rfl rfl) ?_
    have hr0:=asw (gi cs (acZ c w v).toNat+(i:Int))
    have hr1:=Int.emod_nonneg ((IntKind.u64.wrap ((gi cs (((acZ c w v)).toNat))+(i:Int)))) (show c.deque≠0 by omega)
    have hr2:=Int.emod_lt_of_pos ((IntKind.u64.wrap ((gi cs (((acZ c w v)).toNat))+(i:Int)))) (show 0<c.deque by omega)
    refine qtn (aaw (by kernel_rfl) (.cons (.tmp aaf) (.cons (.tmp aaC) .nil)) (avQ _ _ _ _ _ (by omega) (by omega) (by omega) B W _)) ?_
    refine qtn (ack (i:=(((acZ c w v+2)+(IntKind.u64.wrap ((gi cs (((acZ c w v)).toNat))+(i:Int))) % c.deque)).toNat) (.tmp aaC) (.tmp aaf) hS (by omega) (by omega) (by omega) (by kernel_rfl) (Nat.mul_one _)).q ?_
    refine adI ?_
    refine aFV 10 (by kernel_rfl) (l':=#[true,true,true,true,true,true,true,true,true,true,true,false,false,false,false]) rfl rfl (aci (i:=(((acZ c w v+2)+(IntKind.u64.wrap ((gi cs (((acZ c w v)).toNat))+(i:Int))) % c.deque)).toNat) (j:=0) (.tmp aaf) hS (adL (by omega)) rfl (by omega) (by kernel_rfl)) aae (aba (by kernel_rfl)) ?_
    refine acD 11 (by kernel_rfl) (l':=#[true,true,true,true,true,true,true,true,true,true,true,true,false,false,false]) rfl rfl rfl (abv (.tmp aaf) Tryz.underlying38 Tryz.underlying3 rfl) aae (aba (by kernel_rfl)) ?_
    refine aEt 12 (by kernel_rfl) (l':=#[true,true,true,true,true,true,true,true,true,true,true,true,true,false,false]) rfl rfl (acg (T':=3) (us:=[.int .i64 ((IntKind.i64.wrap (gi cs ((((acZ c w v+2)+(IntKind.u64.wrap ((gi cs (((acZ c w v)).toNat))+(i:Int))) % c.deque)).toNat))))]) (.cons (.tmp aaf) .nil) (fun _ =>by kernel_rfl)) aae (fun _ =>(aba (by kernel_rfl))) ?_
    rintro b7
    refine aEt 13 (by kernel_rfl) (l':=#[true,true,true,true,true,true,true,true,true,true,true,true,true,true,false]) rfl rfl (afq (by_:=8) (z:=.int .i64 0) (.tmp aeg) (.tmp aaf) (.cons agv (.cons aeW .nil)) Tryz.underlying24 (adF (by kernel_rfl)) rfl (by decide) rfl rfl (by decide) (by unfold maxLen; omega) (by omega)) aae (fun _ =>(aba (by kernel_rfl))) ?_
    rintro ⟨A8,c8⟩
    refine atK agL ?_
    refine acD 14 (by kernel_rfl) (l':=#[true,true,true,true,true,true,true,true,true,true,true,true,true,true,true]) rfl rfl rfl (aab (.tmp aaf)) aae (aaj agY (by kernel_rfl)) ?_
    refine ax5 (by kernel_rfl) ?_
    refine aa7 ?_
    refine aad (aaa ?_)
    refine rtn (aaM (.tmp aeP) .const (w64 (by omega) (by omega))).q ?_
    refine aa5 (aac (.tmp aaf)).q aae (aaj agY (by kernel_rfl)) ?_
    refine aah ?_
    exact adU (n:=61) (i+1) A8 c8 (by omega) (by omega) (.cons aaf (congrArg (Value.int .i64) (by first | rfl | omega | (simp; omega) | simp)) (.cons (aar aaf) rfl (.cons aaC (by first | rfl | simp) (.cons (aar aap) rfl (.cons (aar aaC) rfl (.cons (aar aa1) rfl (.cons (aar abk) rfl .nil))))))) (acQ am0 rfl Ent.refl)
   ·refine aco ?_
    refine aaq ?_
    refine aaq ?_
    refine aaK ?_
    refine aad (aag (aaa ?_))
    refine rtn (aac (.tmp aa1)).q ?_
    refine aa5 (aab (.tmp aaf)).q aae (aaj ael (by kernel_rfl)) ?_
    refine aah (aad (aaz ?_))
    have hi1:i=(aqN c cs w v).toNat:=by omega
    have hal:=atu (c:=c) (cs:=cs) (w:=w) (l:=v) (by omega) (by omega)
    have hlen:(ae0 c cs w v).length=i:=by rw [hal]; simp; omega
    exact aeZ (A,cx) rfl (.cons aaf .nil) (by rw [hlen]; rfl) (acQ (by rw [hal,hi1]) hlen.symm (Ent.drop.trans Ent.drop))
def rdy (c:Cfg) (cs xs:List Int) (i:Nat):List Int:=(xs.take i).filter (acO c cs)
theorem arj {c:Cfg} {cs xs:List Int} {i:Nat} (hi:i<xs.length) (h:acO c cs (gi xs i)=true):rdy c cs xs i++[gi xs i]=rdy c cs xs (i+1):=by
 unfold rdy; rw [ahe hi,List.filter_append]; simp [h]
theorem amZ {c:Cfg} {cs xs:List Int} {i:Nat} (hi:i<xs.length) (h:acO c cs (gi xs i)=false):rdy c cs xs i=rdy c cs xs (i+1):=by
 unfold rdy; rw [ahe hi,List.filter_append]; simp [h]
theorem agq {c:Cfg} {cs xs:List Int} {i:Nat} (hi:i<xs.length) (h:acO c cs (gi xs i)=true):(rdy c cs xs i).length+1=(rdy c cs xs (i+1)).length:=by
 rw [← arj hi h]; simp
theorem aAy {c:Cfg} {cs xs:List Int} {i:Nat}:(rdy c cs xs i).length≤xs.length:=by
 unfold rdy
 refine Nat.le_trans (List.length_filter_le _ _) ?_
 simp; omega
theorem an4 {c:Cfg} {cs xs:List Int} {i:Nat} (h:i=xs.length):rdy c cs xs i=xs.filter (acO c cs):=by subst h; unfold rdy; rw [List.take_length]
theorem atI {c:Cfg} {cs:List Int} {w:Int} {k:Nat} (hk:1≤k) (h:(ae0 c cs w ((k:Int)-1)).filter (acO c cs)≠[]):acA c cs w k=((ae0 c cs w ((k:Int)-1)).filter (acO c cs),(k:Int)-1):=by
 obtain ⟨j,rfl⟩:∃ j,k=j+1:=⟨k-1,by omega⟩
 rw [show (((j+1:Nat):Int)-1)=(j:Int) by omega] at *
 rw [acA,if_pos h]
theorem ax3 {c:Cfg} {cs:List Int} {w:Int} {k:Nat} (hk:1≤k) (h:(ae0 c cs w ((k:Int)-1)).filter (acO c cs)=[]):acA c cs w k=acA c cs w (k-1):=by
 obtain ⟨j,rfl⟩:∃ j,k=j+1:=⟨k-1,by omega⟩
 rw [show (((j+1:Nat):Int)-1)=(j:Int) by omega] at *
 rw [acA,if_neg (by simpa using h)]; rfl
theorem awR {xs:List Int} (h:¬ 0<((xs.length:Nat):Int)):xs=[]:=List.length_eq_zero_iff.1 (by omega)
theorem aAK {xs:List Int} (h:0<((xs.length:Nat):Int)):xs≠[]:=fun e =>by subst e; simp at h
set_option maxRecDepth 100000 in
theorem amY (c:Cfg) (l:CfgAt) (CA:Option Addr) (cc:Nat) (cs:List Int) (hn:CNums c) (hl:(cs.length:Int)=aaQ c) (t:Int) {B:Nat} {W:World} (hS:Sl afJ 1 W B CA cs) (hcw:CWf cs) (L:List aak):adV Tryz.prog 117 #[.agg (pcL c l CA cc cs).toArray,.int .i64 t] B W L (.bool (acO c cs t)):=by
 obtain ⟨t1,t2,t3,t4,t5⟩:=afw hn
 have ht:=hn.t
 have hcl:aaQ c=abh c+5*c.tasks:=rfl
 refine aay Tryz.func117 rfl (m:=25) rfl (Nat.le_of_ble_eq_true rfl) (R:=[(0,.agg (pcL c l CA cc cs).toArray),(1,.int .i64 t)]) (by kernel_rfl) ?_
 refine aag (aaa ?_)
 refine rtm (abX (.tmp aaf) (us:=(pcL c l CA cc cs)) rfl) ?_
 rintro b1
 refine rtn (aab .const).q ?_
 refine aah (aad (aag ?_))
 refine ad4 (by kernel_rfl) (by kernel_rfl) ?_
 refine qtn (aac (.tmp aa1)).q ?_
 refine qtn (acr (.tmp aaf) .const).q ?_
 refine qtn (aac (.tmp aaf)).q ?_
 refine aok aaR aaR (fun h2 =>?_) (fun h2 =>?_)
 ·refine qts (aac (.tmp adz)).q aaf ?_
  refine qts (aan (k:=0) (o':=0) (.tmp acU) (by kernel_rfl) (by rfl)).q aap ?_
  refine qts (aan (k:=3) (o':=3) (.tmp aaf) (by kernel_rfl) (by rfl)).q aaC ?_
  refine qts (aax (o:=0) (i:=3) (.tmp aaf) aaf (rfl) rfl (by kernel_rfl)) aa1 ?_
  refine qts (abE (.tmp aa1) (.tmp aaf)).q abk ?_
  refine qtn (aat (b:=true) (.tmp acU) (.tmp aaf)).q ?_
  refine qtn (aac (.tmp aaf)).q ?_
  refine aok aaR aaR (fun h3 =>?_) (fun h3 =>?_)
  ·have hat:atV t c.tasks (abh c+0) 5=abh c+t*5:=by unfold atV; rw [if_neg (by omega)]; omega
   refine qts (aan (k:=22) (o':=22) (.tmp acT) (by kernel_rfl) (by rfl)).q aaf ?_
   refine qts (aax (o:=0) (i:=22) (.tmp aaf) aaf (rfl) rfl (by kernel_rfl)) aap ?_
   refine qts (aan (k:=11) (o':=11) (.tmp ad3) (by kernel_rfl) (by rfl)).q aaC ?_
   refine qts (aaB (o:=0) (i:=11) (k:=11) (us:=(lyL c)) (.tmp aaf) aaf (rfl) (by kernel_rfl) rfl rfl) aa1 ?_
   refine qts (aac (.tmp ad9)).q abk ?_
   refine qts (aaw (by kernel_rfl) (.cons (.tmp aap) (.cons (.tmp aaf) .nil)) (aox c hn _ B W _)) acU ?_
   refine qts (ack (i:=((atV t c.tasks (abh c+0) 5)).toNat) (.tmp abk) (.tmp aaf) hS (by omega) (by omega) (by omega) (by kernel_rfl) (Nat.mul_one _)).q adz ?_
   refine qts (aci (i:=((atV t c.tasks (abh c+0) 5)).toNat) (j:=0) (.tmp aaf) hS (adL (by omega)) rfl (by omega) (by kernel_rfl)) aeX ?_
   refine qts (aqa (.tmp aaf) .const).q adK ?_
   refine qtn (aat (b:=true) (.tmp aff) (.tmp aaf)).q ?_
   refine awi (aab (.tmp aaf)).q aae (aaj (aa0 aeW) (by kernel_rfl)) ?_
   refine adI (aad (aaz ?_))
   exact aaN rfl (.cons aaf .nil) (by simp only [abN,acO]; rw [hat]; simp [*,ad8]<;>rfl) Ent.drop
  ·refine qtk aaf ?_
   refine qtk aap ?_
   refine qtk aaC ?_
   refine qtk aa1 ?_
   refine qtk abk ?_
   refine qtk acU ?_
   refine qtk adz ?_
   refine qtk aeX ?_
   refine qtk adK ?_
   refine qtn (aat (b:=false) (.tmp aff) .const).q ?_
   refine awi (aab (.tmp aaf)).q aae (aaj (aa0 aeW) (by kernel_rfl)) ?_
   refine adI (aad (aaz ?_))
   exact aaN rfl (.cons aaf .nil) (by simp only [abN,acO]; simp [*]) Ent.drop
 ·refine qtk aaf ?_
  refine qtk aap ?_
  refine qtk aaC ?_
  refine qtk aa1 ?_
  refine qtk abk ?_
  refine qtn (aat (b:=false) (.tmp acU) .const).q ?_
  refine qtn (aac (.tmp aaf)).q ?_
  refine qtk aaf ?_
  refine qtk aap ?_
  refine qtk aaC ?_
  refine qtk aa1 ?_
  refine qtk abk ?_
  refine qtk acU ?_
  refine qtk adz ?_
  refine qtk aeX ?_
  refine qtk adK ?_
  refine qtn (aat (b:=false) (.tmp aff) .const).q ?_
  refine awi (aab (.tmp aaf)).q aae (aaj (aa0 aeW) (by kernel_rfl)) ?_
  refine adI (aad (aaz ?_))
  exact aaN rfl (.cons aaf .nil) (by simp only [abN,acO]; simp [*]) Ent.drop
set_option maxRecDepth 100000 in
theorem amh (c:Cfg) (l:CfgAt) (CA:Option Addr) (cc:Nat) (cs:List Int) (hn:CNums c) (hl:(cs.length:Int)=aaQ c) (w:Int) (hw:0≤w∧w<c.workers) {B:Nat} {W:World} (hS:Sl afJ 1 W B CA cs) (hcw:CWf cs):Fn_ Tryz.prog 73 #[.agg (pcL c l CA cc cs).toArray,.int .i64 w] B W [] (X:=Option Addr×Nat) (fun p =>.tuple #[.slice p.1 (abw c cs w).1.length p.2,.int .i64 (abw c cs w).2]) (fun p =>[abA p.1 (abw c cs w).1.length p.2 1 ((abw c cs w).1.map (Value.int .i64))]):=by
 have hd:=hn.d
 have hlv:=hn.l
 refine acV Tryz.func73 rfl (m:=40) rfl (Nat.le_of_ble_eq_true rfl) (R:=[(0,.agg (pcL c l CA cc cs).toArray),(1,.int .i64 w)]) (by kernel_rfl) (fun F =>?_)
 refine aag (aaa ?_)
 refine rtm (abX (.tmp aaf) (us:=(pcL c l CA cc cs)) rfl) ?_
 rintro b1
 refine rtn (aab .const).q ?_
 refine rtn (aab .const).q ?_
 refine aah (aad ?_)
 refine aag (aag (aaa ?_))
 refine rtn (aan (k:=0) (o':=0) (.tmp aaC) (by kernel_rfl) (by rfl)).q ?_
 refine rtn (aan (k:=1) (o':=1) (.tmp aaf) (by kernel_rfl) (by rfl)).q ?_
 refine rtn (aax (o:=0) (i:=1) (.tmp aaf) aaf (rfl) rfl (by kernel_rfl)) ?_
 refine rtn (ae3 (.tmp aaf) .const (w64 (by omega) (by omega))).q ?_
 refine rtn (aab (.tmp aaf)).q ?_
 refine aah (aad ?_)
 refine aaU ?_
 refine aey (X:=Nat) (fun k =>k) (fun k =>(k:Int)≤c.levels∧abw c cs w=acA c cs w k) (fun k =>[(6,.int .i64 (((k:Int)-1))),(2,.pointer (some ⟨b1,0,none⟩)),(1,.int .i64 w)]) (fun k =>pts b1 0 (pcL c l CA cc cs)::[F]) c.levels.toNat (⟨by omega,rfl⟩) (.cons aaf (congrArg (Value.int .i64) (by first | rfl | omega | (simp; omega) | simp)) (.cons aeX rfl (.cons aff rfl .nil))) (Ent.refl) (fun k hi2 =>?_)
 obtain ⟨hk1,hk2⟩:=hi2
 refine aag (aag (aaa ?_))
 refine rtn (aac (.tmp aaf)).q ?_
 refine rtn (acr (.tmp aaf) .const).q ?_
 refine aah (aad ?_)
 refine abT (.tmp aaf) (fun h3 =>?_) (fun h3 =>?_)
 ·refine aaD ?_
  refine aad (aag ?_)
  refine aaU ?_
  refine aag (aaa ?_)
  refine rtn (aab .const).q ?_
  refine aah (aad ?_)
  refine aag (aag (aaa ?_))
  refine rtn (aaB (o:=0) (i:=0) (k:=23) (us:=(pcL c l CA cc cs)) (.tmp abk) aaf (rfl) (by kernel_rfl) rfl rfl) ?_
  refine rtn (aac (.tmp adz)).q ?_
  refine rtn (aac (.tmp acU)).q ?_
  refine rtm (adj (by kernel_rfl) (.cons (.tmp aaC) (.cons (.tmp aap) (.cons (.tmp aaf) .nil))) (akG c l CA cc cs hn hl _ _ (by omega) (by omega) hS hcw) .nil) ?_
  rintro ⟨A4,c4⟩
  refine rtn (adq (.tmp aaf) Tryz.underlying24).q ?_
  refine rtn (aac .const).q ?_
  refine aah (aad ?_)
  refine aaU ?_
  refine amd (afv 1) ?_
  have hxl:=aoT (c:=c) (cs:=cs) (w:=w) (l:=((k:Int)-1)) (by omega)
  refine agP (X:=Nat) (Y:=Option Addr) (Z:=Nat) (fun i A cx =>(ae0 c cs w ((k:Int)-1)).length-i) (fun i A cx =>i≤(ae0 c cs w ((k:Int)-1)).length) (fun i A cx =>[(23,.int .i64 ((i:Int))),(22,.int .i64 ((((ae0 c cs w (((k:Int)-1))).length:Nat):Int))),(21,.slice A4 ((ae0 c cs w (((k:Int)-1))).length) c4),(20,.int .i64 (((k:Int)-1))),(19,.int .i64 w),(18,.agg (pcL c l CA cc cs).toArray),(7,.slice A ((rdy c cs (ae0 c cs w ((k:Int)-1)) i).length) cx),(15,.bool (decide (0≤((k:Int)-1)))),(14,.int .i64 (((k:Int)-1))),(6,.int .i64 (((k:Int)-1))),(2,.pointer (some ⟨b1,0,none⟩)),(1,.int .i64 w)]) (fun i A cx =>abA A ((rdy c cs (ae0 c cs w ((k:Int)-1)) i).length) cx 1 ((rdy c cs (ae0 c cs w ((k:Int)-1)) i).map (Value.int .i64))::abA A4 ((ae0 c cs w (((k:Int)-1))).length) c4 1 ((ae0 c cs w (((k:Int)-1))).map (Value.int .i64))::pts b1 0 (pcL c l CA cc cs)::[F]) 0 none 0 (by omega) (.cons aaf (congrArg (Value.int .i64) (by first | rfl | omega | (simp; omega) | simp)) (.cons aap rfl (.cons aaC rfl (.cons aa1 rfl (.cons abk rfl (.cons acU rfl (.cons adz rfl (.cons aeX rfl (.cons adK rfl (.cons aff rfl (.cons acP rfl (.cons acT rfl .nil)))))))))))) (Ent.refl) (fun i A cx hi5 =>?_)
  have hi0:=hi5
  have hrl:=aAy (c:=c) (cs:=cs) (xs:=(ae0 c cs w ((k:Int)-1))) (i:=i)
  refine aag (aaa ?_)
  refine rtn (abE (.tmp aaf) (.tmp aap)).q ?_
  refine aah (aad (aag ?_))
  refine abT (.tmp aaf) (fun h6 =>?_) (fun h6 =>?_)
  ·refine aaD ?_
   refine aad (aag ?_)
   refine aaU ?_
   refine aag (aaa ?_)
   refine rtn (acj (i:=i) (.tmp aa1) (.tmp aap) aap (by omega) (by omega) (by omega) (by kernel_rfl) (Nat.mul_one _)) ?_
   refine rtn (adk (i:=i) (.tmp aaf) aap (agb (by first | omega | (simp; omega))) (by kernel_rfl)) ?_
   refine rtn (aab (.tmp aaf)).q ?_
   refine aah (aad ?_)
   refine aag (aaa ?_)
   refine rtn (aaB (o:=0) (i:=0) (k:=23) (us:=(pcL c l CA cc cs)) (.tmp aew) aaC (rfl) (by kernel_rfl) rfl rfl) ?_
   refine rtn (aac (.tmp aap)).q ?_
   refine rtn (aaw (by kernel_rfl) (.cons (.tmp aap) (.cons (.tmp aaf) .nil)) (amY c l CA cc cs hn hl _ hS hcw _)) ?_
   refine aah (aad ?_)
   refine ajA (.tmp aaf) (fun h7 =>?_) (fun h7 =>?_)
   ·refine aaa ?_
    refine rtn (aac (.tmp ad3)).q ?_
    refine rtn (aac (.tmp abk)).q ?_
    refine rtm (acg (T':=3) (us:=[.int .i64 ((gi ((ae0 c cs w (((k:Int)-1)))) i))]) (.cons (.tmp aaf) .nil) (fun _ =>by kernel_rfl)) ?_
    rintro b8
    refine rtm (afq (by_:=8) (z:=.int .i64 0) (.tmp aaC) (.tmp aaf) (.cons agv (.cons aeW .nil)) Tryz.underlying24 (adF (by kernel_rfl)) rfl (by decide) rfl rfl (by decide) (by unfold maxLen; omega) (by omega)) ?_
    rintro ⟨A9,c9⟩
    refine aeM agL ?_
    refine aa5 (aab (.tmp aaf)).q aae (aaj ahv (by kernel_rfl)) ?_
    refine aah ?_
    refine aa7 ?_
    refine aad (aaa ?_)
    refine rtn (aaM (.tmp aeg) .const (w64 (by omega) (by omega))).q ?_
    refine aa5 (aac (.tmp aaf)).q aae (aaj afG (by kernel_rfl)) ?_
    refine aah ?_
    exact adU (n:=40) (i+1) A9 c9 (by omega) (by omega) (.cons aaf (congrArg (Value.int .i64) (by first | rfl | omega | (simp; omega) | simp)) (.cons aew rfl (.cons adP rfl (.cons aem rfl (.cons ad9 rfl (.cons aeP rfl (.cons aaC (congrArg (fun q =>Value.slice _ q _) (agq (by omega) (by assumption))) (.cons aev rfl (.cons (aar aaf) rfl (.cons (aar aap) rfl (.cons (aar aaC) rfl (.cons (aar aa1) rfl .nil)))))))))))) (acQ (arj (by omega) (by assumption)) (agq (by omega) (by assumption)) Ent.refl)
   ·refine aaD ?_
    refine aa7 ?_
    refine aad (aaa ?_)
    refine rtn (aaM (.tmp aeX) .const (w64 (by omega) (by omega))).q ?_
    refine aa5 (aac (.tmp aaf)).q aae (aaj arF (by kernel_rfl)) ?_
    refine aah ?_
    exact adU (n:=40) (i+1) A cx (by omega) (by omega) (.cons aaf (congrArg (Value.int .i64) (by first | rfl | omega | (simp; omega) | simp)) (.cons aff rfl (.cons acP rfl (.cons acT rfl (.cons aeg rfl (.cons ad3 rfl (.cons aew (congrArg (fun q =>Value.slice _ q _) (by rw [amZ (by omega) (by assumption)])) (.cons adP rfl (.cons aem rfl (.cons ad9 rfl (.cons aeP rfl (.cons aev rfl .nil)))))))))))) (acQ (amZ (by omega) (by assumption)) (by rw [amZ (by omega) (by assumption)]) Ent.refl)
  ·refine aco ?_
   refine aaq ?_
   refine aaq ?_
   refine aaK ?_
   refine aad (aag (aaa ?_))
   refine rtn (aac (.tmp aeX)).q ?_
   refine rtn (adq (.tmp aaf) Tryz.underlying24).q ?_
   refine rtn (afI (.tmp aaf) .const).q ?_
   refine aah (aad ?_)
   refine abT (.tmp aaf) (fun h10 =>?_) (fun h10 =>?_)
   ·refine aag (aaa ?_)
    refine rtn (aac (.tmp acP)).q ?_
    refine rtn (aac (.tmp aew)).q ?_
    refine rtn (aab (.tmp aap)).q ?_
    refine rtn (aab (.tmp aap)).q ?_
    refine aah (aad (aaz ?_))
    refine abK ?_
    refine aao (aao ?_)
    refine abK ?_
    refine aao ?_
    have hra:=an4 (c:=c) (cs:=cs) (xs:=(ae0 c cs w ((k:Int)-1))) (i:=i) (by omega)
    have hb0:abw c cs w=(rdy c cs (ae0 c cs w ((k:Int)-1)) i,(k:Int)-1):=by rw [hk2,atI (by omega) (by rw [← hra]; exact aAK (by assumption)),hra]
    exact aeZ (A,cx) rfl (.cons aap (.cons aaf .nil)) (by rw [hb0]; rfl) (acQ (by rw [hb0]) (by rw [hb0]) (Ent.drop.trans Ent.drop))
   ·refine aaD ?_
    refine aa7 ?_
    refine aad (aaa ?_)
    refine rtn (aac (.tmp ad3)).q ?_
    refine rtn (ae3 (.tmp aaf) .const (w64 (by omega) (by omega))).q ?_
    refine aa5 (aab (.tmp aaf)).q aae (aaj ajn (by kernel_rfl)) ?_
    refine aah ?_
    exact abW (n:=40) ((k-1)) (⟨by omega,by rw [hk2,ax3 (by omega) (by rw [← an4 (i:=i) (by omega)]; exact awR (by assumption))]⟩) (by omega) (.cons aaf (congrArg (Value.int .i64) (by first | rfl | omega | (simp; omega) | simp)) (.cons aem rfl (.cons ad9 rfl .nil))) ((Ent.drop.trans Ent.drop))
 ·refine aco ?_
  refine aaq ?_
  refine aaq ?_
  refine aaK ?_
  refine aad (aag (aaa ?_))
  refine rtn (aab .const).q ?_
  refine rtn (aab .const).q ?_
  refine aah (aad (aaz ?_))
  have hb0:abw c cs w=([],-1):=by rw [hk2,show k=0 by omega]; rfl
  exact aeZ (none,0) rfl (.cons aap (.cons aaf .nil)) (by rw [hb0]; rfl) (adb (by rw [hb0]) (by rw [hb0]; rfl) Ent.drop)
theorem avU {c:Cfg} {cs:List Int} {t:Int} (hn:CNums c) (h:0≤atV t c.tasks (abh c+0) 5):0≤t∧t<c.tasks∧atV t c.tasks (abh c+0) 5=abh c+t*5:=by
 unfold atV at *
 split at h
 ·omega
 ·rename_i h1; rw [if_neg h1]; omega
theorem at9 {c:Cfg} {cs:List Int} {t:Int} (hn:CNums c) (h:¬ 0≤atV t c.tasks (abh c+0) 5):acO c cs t=false:=by
 obtain ⟨t1,_⟩:=afw hn
 unfold acO
 unfold atV at h
 split at h
 ·rename_i h1
  rcases h1 with h1 | h1
  ·simp [show ¬ 0≤t by omega]
  ·simp [show ¬ t<c.tasks by omega]
 ·omega
set_option maxRecDepth 100000 in
theorem afz (c:Cfg) (l:CfgAt) (CA:Option Addr) (cc:Nat) (cs:List Int) {B:Nat} {W:World} (hS:Sl afJ 1 W B CA cs) (hcw:CWf cs) (hc:acR W B c l) (L:List aak):adV Tryz.prog 78 #[acM c l,.slice CA cs.length cc] B W L (.bool (decide (abB c=0∧(cs.length:Int)=aaQ c))):=by
 refine aay Tryz.func78 rfl (m:=15) rfl (Nat.le_of_ble_eq_true rfl) (R:=[(0,acM c l),(1,.slice CA cs.length cc)]) (by kernel_rfl) ?_
 refine aag (aaa ?_)
 refine rtm (abX (.tmp aaf) (us:=(cfL c l)) rfl) ?_
 rintro b1
 refine rtn (aab .const).q ?_
 refine aah (aad ?_)
 refine aag (aaa ?_)
 refine rtn (aaB (o:=0) (i:=0) (k:=11) (us:=(cfL c l)) (.tmp aap) aaf (rfl) (by kernel_rfl) rfl rfl) ?_
 refine rtn (aaw (by kernel_rfl) (.cons (.tmp aaf) .nil) (an1 c l hc _)) ?_
 refine rtn (aqa (.tmp aaf) .const).q ?_
 refine rtn (aac (.tmp aaf)).q ?_
 refine abm aaR aaR (fun h2 =>?_) (fun h2 =>?_)
 ·refine rts (aac (.tmp aeX)).q aaf ?_
  refine rts (adq (.tmp aaf) Tryz.underlying23).q aap ?_
  refine rts (aaB (o:=0) (i:=0) (k:=11) (us:=(cfL c l)) (.tmp aeX) aaf (rfl) (by kernel_rfl) rfl rfl) aaC ?_
  refine rts (aaw (by kernel_rfl) (.cons (.tmp aaf) .nil) (an2 c l (aoX (ac9 (by assumption))) B W _)) aa1 ?_
  refine rts (aqa (.tmp aaC) (.tmp aaf)).q abk ?_
  refine rtn (aat (b:=true) (.tmp acU) (.tmp aaf)).q ?_
  refine aa5 (aab (.tmp aaf)).q aae (aaj akz (by kernel_rfl)) ?_
  refine aah (aad (aaz ?_))
  exact aaN rfl (.cons aaf .nil) (by simp [*,abN]<;>rfl) Ent.drop
 ·refine rtk aaf ?_
  refine rtk aap ?_
  refine rtk aaC ?_
  refine rtk aa1 ?_
  refine rtk abk ?_
  refine rtn (aat (b:=false) (.tmp acU) .const).q ?_
  refine aa5 (aab (.tmp aaf)).q aae (aaj akz (by kernel_rfl)) ?_
  refine aah (aad (aaz ?_))
  exact aaN rfl (.cons aaf .nil) (by simp [*,abN]) Ent.drop
set_option maxRecDepth 100000 in
theorem aiZ (c:Cfg) (l:CfgAt) (CA:Option Addr) (cc:Nat) (cs:List Int) (hn:CNums c) (hl:(cs.length:Int)=aaQ c) (t:Int) {B:Nat} {W:World} (hS:Sl afJ 1 W B CA cs) (hcw:CWf cs) (L:List aak):adV Tryz.prog 127 #[acM c l,.slice CA cs.length cc,.int .i64 t] B W L (.bool (acO c cs t)):=by
 obtain ⟨t1,t2,t3,t4,t5⟩:=afw hn
 have ht:=hn.t
 have hcl:aaQ c=abh c+5*c.tasks:=rfl
 refine aay Tryz.func127 rfl (m:=20) rfl (Nat.le_of_ble_eq_true rfl) (R:=[(0,acM c l),(1,.slice CA cs.length cc),(2,.int .i64 t)]) (by kernel_rfl) ?_
 refine aag (aaa ?_)
 refine rtm (abX (.tmp aaf) (us:=(cfL c l)) rfl) ?_
 rintro b1
 refine rtn (aab .const).q ?_
 refine aah (aad ?_)
 refine aag (aaa ?_)
 refine rtn (aaB (o:=0) (i:=0) (k:=11) (us:=(cfL c l)) (.tmp aap) aaf (rfl) (by kernel_rfl) rfl rfl) ?_
 refine rtn (aac (.tmp acU)).q ?_
 refine rtn (aaw (by kernel_rfl) (.cons (.tmp aap) (.cons (.tmp aaf) .nil)) (anX c l hn _ B W _)) ?_
 refine rtn (aab (.tmp aaf)).q ?_
 refine aah (aad ?_)
 refine aag (aaa ?_)
 refine rtn (aac (.tmp aaf)).q ?_
 refine rtn (acr (.tmp aaf) .const).q ?_
 refine rtn (aac (.tmp aaf)).q ?_
 refine abm aaR aaR (fun h2 =>?_) (fun h2 =>?_)
 ·obtain ⟨ha1,ha2,hat⟩:=avU (cs:=cs) hn h2
  refine rts (aac (.tmp acP)).q aaf ?_
  refine rts (aac (.tmp abk)).q aap ?_
  refine rts (ack (i:=((atV t c.tasks (abh c+0) 5)).toNat) (.tmp aap) (.tmp aaf) hS (by omega) (by omega) (by omega) (by kernel_rfl) (Nat.mul_one _)).q aaC ?_
  refine rts (aci (i:=((atV t c.tasks (abh c+0) 5)).toNat) (j:=0) (.tmp aaf) hS (adL (by omega)) rfl (by omega) (by kernel_rfl)) aa1 ?_
  refine rts (aqa (.tmp aaf) .const).q abk ?_
  refine rtn (aat (b:=true) (.tmp acU) (.tmp aaf)).q ?_
  refine aa5 (aab (.tmp aaf)).q aae (aaj afG (by kernel_rfl)) ?_
  refine aah (aad (aaz ?_))
  exact aaN rfl (.cons aaf .nil) (by simp only [abN,acO]; rw [hat]; simp [*,ad8]<;>rfl) Ent.drop
 ·refine rtk aaf ?_
  refine rtk aap ?_
  refine rtk aaC ?_
  refine rtk aa1 ?_
  refine rtk abk ?_
  refine rtn (aat (b:=false) (.tmp acU) .const).q ?_
  refine aa5 (aab (.tmp aaf)).q aae (aaj afG (by kernel_rfl)) ?_
  refine aah (aad (aaz ?_))
  exact aaN rfl (.cons aaf .nil) (by simp only [abN]; rw [at9 hn (by assumption)]) Ent.drop
set_option maxRecDepth 100000 in
theorem ai1 (c:Cfg) (l:CfgAt) (CA:Option Addr) (cc:Nat) (cs:List Int) (hv0:abB c=0) (hn:CNums c) (hl:(cs.length:Int)=aaQ c) (w v:Int) (hw:0≤w∧w<c.workers) (hv:0≤v∧v<c.levels) {B:Nat} {W:World} (hS:Sl afJ 1 W B CA cs) (hcw:CWf cs) (hc:acR W B c l):Fn_ Tryz.prog 37 #[acM c l,.slice CA cs.length cc,.int .i64 w,.int .i64 v] B W [] (X:=Option Addr×Nat) (fun p =>.slice p.1 (ae0 c cs w v).length p.2) (fun p =>[abA p.1 (ae0 c cs w v).length p.2 1 ((ae0 c cs w v).map (Value.int .i64))]):=by
 obtain ⟨q1,q2,q3,q4,q5,q6⟩:=asz hn hw hv
 obtain ⟨t1,t2,t3,t4,t5⟩:=afw hn
 have hd:=hn.d
 have ht:=hn.t
 have hcl:aaQ c=abh c+5*c.tasks:=rfl
 have hen:aqN c cs w v=(ara (gi cs (acZ c w v+1).toNat) (gi cs (acZ c w v).toNat)):=rfl
 refine acV Tryz.func37 rfl (m:=83) rfl (Nat.le_of_ble_eq_true rfl) (R:=[(0,acM c l),(1,.slice CA cs.length cc),(2,.int .i64 w),(3,.int .i64 v)]) (by kernel_rfl) (fun F =>?_)
 refine aag (aaa ?_)
 refine rtm (abX (.tmp aaf) (us:=(cfL c l)) rfl) ?_
 rintro b1
 refine rtn (aab .const).q ?_
 refine aah (aad ?_)
 refine aag (aag (aaa ?_))
 refine rtn (aaB (o:=0) (i:=0) (k:=11) (us:=(cfL c l)) (.tmp aap) aaf (rfl) (by kernel_rfl) rfl rfl) ?_
 refine rtn (aac (.tmp abk)).q ?_
 refine rtn (aaw (by kernel_rfl) (.cons (.tmp aap) (.cons (.tmp aaf) .nil)) (afz c l CA cc cs hS hcw hc _)) ?_
 refine rtn (ap7 (.tmp aaf)).q ?_
 refine rtn (aac (.tmp aaf)).q ?_
 refine abm aaR aaR (fun h2 =>?_) (fun h2 =>?_)
 ·exact absurd ⟨hv0,hl⟩ h2
 ·refine rts (aac (.tmp aff)).q aaf ?_
  refine rts (abE (.tmp aaf) .const).q aap ?_
  refine rtn (aat (b:=false) (.tmp aaC) (.tmp aaf)).q ?_
  refine rtn (aac (.tmp aaf)).q ?_
  refine abm aaR aaR (fun h3 =>?_) (fun h3 =>?_)
  ·exact absurd h3 (by omega)
  ·refine rts (aac (.tmp ad3)).q aaf ?_
   refine rts (aan (k:=0) (o':=0) (.tmp acT) (by kernel_rfl) (by rfl)).q aap ?_
   refine rts (aax (o:=0) (i:=0) (.tmp aaf) aaf (rfl) rfl (by kernel_rfl)) aaC ?_
   refine rts (acr (.tmp aaC) (.tmp aaf)).q aa1 ?_
   refine rtn (aat (b:=false) (.tmp abk) (.tmp aaf)).q ?_
   refine rtn (aac (.tmp aaf)).q ?_
   refine abm aaR aaR (fun h4 =>?_) (fun h4 =>?_)
   ·exact absurd h4 (by omega)
   ·refine rts (aac (.tmp (aar aaf))).q aaf ?_
    refine rts (abE (.tmp aaf) .const).q aap ?_
    refine rtn (aat (b:=false) (.tmp aaC) (.tmp aaf)).q ?_
    refine rtn (aac (.tmp aaf)).q ?_
    refine abm aaR aaR (fun h5 =>?_) (fun h5 =>?_)
    ·exact absurd h5 (by omega)
    ·refine rts (aac (.tmp (aar abk))).q aaf ?_
     refine rts (aan (k:=1) (o':=1) (.tmp (aar aap)) (by kernel_rfl) (by rfl)).q aap ?_
     refine rts (aax (o:=0) (i:=1) (.tmp aaf) aaf (rfl) rfl (by kernel_rfl)) aaC ?_
     refine rts (acr (.tmp aaC) (.tmp aaf)).q aa1 ?_
     refine rtn (aat (b:=false) (.tmp abk) (.tmp aaf)).q ?_
     refine aah (aad ?_)
     refine abT (.tmp aaf) (fun h6 =>?_) (fun h6 =>?_)
     ·exact absurd h6 (by omega)
     ·refine aaD ?_
      refine aad (aag (aaa ?_))
      refine rtn (aaB (o:=0) (i:=0) (k:=11) (us:=(cfL c l)) (.tmp (aar acU)) aaf (rfl) (by kernel_rfl) rfl rfl) ?_
      refine rtn (aac (.tmp (aar aff))).q ?_
      refine rtn (aac (.tmp (aar acT))).q ?_
      refine rtn (aaw (by kernel_rfl) (.cons (.tmp aaC) (.cons (.tmp aap) (.cons (.tmp aaf) .nil))) (anZ c l hn _ _ (by omega) (by omega) B W _)) ?_
      refine rtm (acd (v:=.agg #[.int .i64 0,.int .i64 0,.int .i64 0,.int .i64 0]) (us:=[.int .i64 0,.int .i64 0,.int .i64 0,.int .i64 0]) (by kernel_rfl) rfl) ?_
      rintro b7
      refine ahi (abg (o:=0) (i:=0) (k:=4) (us:=[.int .i64 ((acZ c w v)),.int .i64 ((acZ c w v+1)),.int .i64 ((acZ c w v+2)),.int .i64 c.deque]) (ws:=[.int .i64 ((acZ c w v)),.int .i64 ((acZ c w v+1)),.int .i64 ((acZ c w v+2)),.int .i64 c.deque]) (.tmp aaf) (.tmp aap) aaR (rfl) (by kernel_rfl) rfl (by decide) rfl rfl (by simp) rfl) aae (fun _ =>aa3) (fun _ =>?_)
      refine aah (aad (aag ?_))
      refine ad4 (by kernel_rfl) (by kernel_rfl) ?_
      refine qtn (aac (.tmp (aar aeg))).q ?_
      refine qtn (aan (k:=0) (o':=0) (.tmp aap) (by kernel_rfl) (by rfl)).q ?_
      refine qtn (aax (o:=0) (i:=0) (.tmp aaf) aaf (rfl) rfl (by kernel_rfl)) ?_
      refine qtn (ack (i:=((acZ c w v)).toNat) (.tmp aaC) (.tmp aaf) hS (by omega) (by omega) (by omega) (by kernel_rfl) (Nat.mul_one _)).q ?_
      refine qtn (aci (i:=((acZ c w v)).toNat) (j:=0) (.tmp aaf) hS (adL (by omega)) rfl (by omega) (by kernel_rfl)) ?_
      refine qtn (aac (.tmp (aar ad9))).q ?_
      refine qtn (aan (k:=1) (o':=1) (.tmp adz) (by kernel_rfl) (by rfl)).q ?_
      refine qtn (aax (o:=0) (i:=1) (.tmp aaf) aaf (rfl) rfl (by kernel_rfl)) ?_
      refine qtn (ack (i:=((acZ c w v+1)).toNat) (.tmp aaC) (.tmp aaf) hS (by omega) (by omega) (by omega) (by kernel_rfl) (Nat.mul_one _)).q ?_
      refine qtn (aci (i:=((acZ c w v+1)).toNat) (j:=0) (.tmp aaf) hS (adL (by omega)) rfl (by omega) (by kernel_rfl)) ?_
      refine qtn (aab (.tmp acU)).q ?_
      refine qtn (aab (.tmp aap)).q ?_
      refine adI (aad ?_)
      refine aag (aaa ?_)
      refine rtn (aac (.tmp aaf)).q ?_
      refine rtn (aac (.tmp aaC)).q ?_
      refine rtn (aaw (by kernel_rfl) (.cons (.tmp aap) (.cons (.tmp aaf) .nil)) (apG _ _ B W _)) ?_
      refine rtn (aab (.tmp aaf)).q ?_
      refine aah (aad ?_)
      refine aag (aag (aaa ?_))
      refine rtn (aac (.tmp aaf)).q ?_
      refine rtn (abE (.tmp aaf) .const).q ?_
      refine rtn (aac (.tmp aaf)).q ?_
      refine abm aaR aaR (fun h8 =>?_) (fun h8 =>?_)
      ·refine rtk aaf ?_
       refine rtk aap ?_
       refine rtk aaC ?_
       refine rtk aa1 ?_
       refine rtn (aat (b:=true) (.tmp abk) .const).q ?_
       refine aah (aad ?_)
       refine acz (.tmp aaf) ?_
       refine aag (aaa ?_)
       refine aa5 (aab .const).q aae (aaj (aa0 (aa0 afG)) (by kernel_rfl)) ?_
       refine aah (aad ?_)
       refine aaz (aao ?_)
       exact aeZ (none,0) rfl (.cons aaf .nil) (by rw [adY (by omega)]; rfl) (adb (adY (by omega)) (by rw [adY (by omega)]; rfl) (Ent.drop.trans Ent.drop))
      ·refine rts (aac (.tmp aa1)).q aaf ?_
       refine rts (aan (k:=4) (o':=4) (.tmp (aar (aar acP))) (by kernel_rfl) (by rfl)).q aap ?_
       refine rts (aax (o:=0) (i:=4) (.tmp aaf) aap (rfl) rfl (by kernel_rfl)) aaC ?_
       refine rts (afI (.tmp aaC) (.tmp aaf)).q aa1 ?_
       refine rtn (aat (b:=false) (.tmp abk) (.tmp aaf)).q ?_
       refine aah (aad ?_)
       refine abT (.tmp aaf) (fun h9 =>?_) (fun h9 =>?_)
       ·refine aag (aaa ?_)
        refine aa5 (aab .const).q aae (aaj (aa0 (aa0 afG)) (by kernel_rfl)) ?_
        refine aah (aad ?_)
        refine aaz (aao ?_)
        exact aeZ (none,0) rfl (.cons aaf .nil) (by rw [adY (by omega)]; rfl) (adb (adY (by omega)) (by rw [adY (by omega)]; rfl) (Ent.drop.trans Ent.drop))
       ·refine aaD ?_
        refine aad (aag (aaa ?_))
        refine rtn (aab .const).q ?_
        refine aah (aad ?_)
        refine aag (aag (aaa ?_))
        refine rtn (aab .const).q ?_
        refine aah (aad ?_)
        refine aaU ?_
        refine amd (afv 1) ?_
        refine agP (X:=Nat) (Y:=Option Addr) (Z:=Nat) (fun i A cx =>(aqN c cs w v).toNat-i) (fun i A cx =>i≤(aqN c cs w v).toNat) (fun i A cx =>[(14,.int .i64 ((i:Int))),(13,.slice A i cx),(12,.int .i64 ((ara ((gi cs (((acZ c w v+1)).toNat))) ((gi cs (((acZ c w v)).toNat)))))),(10,.int .u64 ((gi cs (((acZ c w v)).toNat)))),(9,.pointer (some ⟨b7,0,none⟩)),(8,.slice none 0 0),(1,.slice CA cs.length cc)]) (fun i A cx =>abA A i cx 1 (((List.range i).map (azU c cs w v (ad8 cs (acZ c w v)))).map (Value.int .i64))::pts b7 0 [.int .i64 ((acZ c w v)),.int .i64 ((acZ c w v+1)),.int .i64 ((acZ c w v+2)),.int .i64 c.deque]::pts b1 0 (cfL c l)::[F]) 0 none 0 (by omega) (.cons aaf (congrArg (Value.int .i64) (by first | rfl | omega | (simp; omega) | simp)) (.cons aap (by first | rfl | simp) (.cons acP rfl (.cons adP rfl (.cons (aar adz) rfl (.cons (aar (aar adP)) rfl (.cons (aar (aar aeP)) rfl .nil))))))) (Ent.refl) (fun i A cx hi10 =>?_)
        have hi0:=hi10
        refine aag (aag (aaa ?_))
        refine rtn (aac (.tmp aaf)).q ?_
        refine rtn (aac (.tmp aa1)).q ?_
        refine rtn (abE (.tmp aap) (.tmp aaf)).q ?_
        refine aah (aad ?_)
        refine abT (.tmp aaf) (fun h11 =>?_) (fun h11 =>?_)
        ·refine aaD ?_
         refine aad (aag ?_)
         refine aaU ?_
         refine aaa ?_
         refine rtn (aac (.tmp abk)).q ?_
         refine rtn (aac (.tmp acP)).q ?_
         refine rtn (aaB (o:=0) (i:=0) (k:=4) (us:=[.int .i64 ((acZ c w v)),.int .i64 ((acZ c w v+1)),.int .i64 ((acZ c w v+2)),.int .i64 c.deque]) (.tmp aff) aap (rfl) (by kernel_rfl) rfl rfl) ?_
         refine rtn (aac (.tmp aff)).q ?_
         refine rtn (aac (.tmp aeX)).q ?_
         refine rtn (abv (.tmp aaf) Tryz.underlying3 Tryz.underlying38 (avb (by omega) (by omega))).q ?_
         refine rtn (aaM (.tmp aaC) (.tmp aaf) rfl).q ?_
         have hr0:=asw (gi cs (acZ c w v).toNat+(i:Int))
         have hr1:=Int.emod_nonneg ((IntKind.u64.wrap ((gi cs (((acZ c w v)).toNat))+(i:Int)))) (show c.deque≠0 by omega)
         have hr2:=Int.emod_lt_of_pos ((IntKind.u64.wrap ((gi cs (((acZ c w v)).toNat))+(i:Int)))) (show 0<c.deque by omega)
         refine rtn (aaw (by kernel_rfl) (.cons (.tmp abk) (.cons (.tmp aaf) .nil)) (apH _ _ _ _ _ (by omega) (by omega) (by omega) B W _)) ?_
         refine rtn (ack (i:=(((acZ c w v+2)+(IntKind.u64.wrap ((gi cs (((acZ c w v)).toNat))+(i:Int))) % c.deque)).toNat) (.tmp adz) (.tmp aaf) hS (by omega) (by omega) (by omega) (by kernel_rfl) (Nat.mul_one _)).q ?_
         refine rtn (aci (i:=(((acZ c w v+2)+(IntKind.u64.wrap ((gi cs (((acZ c w v)).toNat))+(i:Int))) % c.deque)).toNat) (j:=0) (.tmp aaf) hS (adL (by omega)) rfl (by omega) (by kernel_rfl)) ?_
         refine rtn (abv (.tmp aaf) Tryz.underlying38 Tryz.underlying3 rfl).q ?_
         refine rtm (acg (T':=3) (us:=[.int .i64 ((IntKind.i64.wrap (gi cs ((((acZ c w v+2)+(IntKind.u64.wrap ((gi cs (((acZ c w v)).toNat))+(i:Int))) % c.deque)).toNat))))]) (.cons (.tmp aaf) .nil) (fun _ =>by kernel_rfl)) ?_
         rintro b12
         refine rtm (afq (by_:=8) (z:=.int .i64 0) (.tmp acT) (.tmp aaf) (.cons agv (.cons aeW .nil)) Tryz.underlying24 (adF (by kernel_rfl)) rfl (by decide) rfl rfl (by decide) (by unfold maxLen; omega) (by omega)) ?_
         rintro ⟨A13,c13⟩
         refine aeM agL ?_
         refine aa5 (aab (.tmp aaf)).q aae (aaj ahv (by kernel_rfl)) ?_
         refine aah ?_
         refine aa7 ?_
         refine aad (aaa ?_)
         refine rtn (aac (.tmp ad9)).q ?_
         refine rtn (aaM (.tmp aaf) .const (w64 (by omega) (by omega))).q ?_
         refine aa5 (aab (.tmp aaf)).q aae (aaj agY (by kernel_rfl)) ?_
         refine aah ?_
         exact adU (n:=83) (i+1) A13 c13 (by omega) (by omega) (.cons aaf (congrArg (Value.int .i64) (by first | rfl | omega | (simp; omega) | simp)) (.cons aa1 (by first | rfl | simp) (.cons (aar aaf) rfl (.cons (aar aap) rfl (.cons (aar aaC) rfl (.cons (aar aa1) rfl (.cons (aar abk) rfl .nil))))))) (acQ am0 rfl Ent.refl)
        ·refine aco ?_
         refine aaq ?_
         refine aaq ?_
         refine aaK ?_
         refine aad (aag (aaa ?_))
         refine rtn (aac (.tmp abk)).q ?_
         refine aa5 (aab (.tmp aaf)).q aae (aaj auy (by kernel_rfl)) ?_
         refine aah (aad (aaz ?_))
         have hi1:i=(aqN c cs w v).toNat:=by omega
         have hal:=atu (c:=c) (cs:=cs) (w:=w) (l:=v) (by omega) (by omega)
         have hlen:(ae0 c cs w v).length=i:=by rw [hal]; simp; omega
         exact aeZ (A,cx) rfl (.cons aaf .nil) (by rw [hlen]; rfl) (acQ (by rw [hal,hi1]) hlen.symm (Ent.drop.trans Ent.drop))
set_option maxRecDepth 100000 in
theorem aij (c:Cfg) (l:CfgAt) (CA:Option Addr) (cc:Nat) (cs:List Int) (hv0:abB c=0) (hn:CNums c) (hl:(cs.length:Int)=aaQ c) (w:Int) (hw:0≤w∧w<c.workers) {B:Nat} {W:World} (hS:Sl afJ 1 W B CA cs) (hcw:CWf cs) (hc:acR W B c l):Fn_ Tryz.prog 79 #[acM c l,.slice CA cs.length cc,.int .i64 w] B W [] (X:=Option Addr×Nat) (fun p =>.tuple #[.slice p.1 (abw c cs w).1.length p.2,.int .i64 (abw c cs w).2]) (fun p =>[abA p.1 (abw c cs w).1.length p.2 1 ((abw c cs w).1.map (Value.int .i64))]):=by
 have hd:=hn.d
 have hlv:=hn.l
 refine acV Tryz.func79 rfl (m:=49) rfl (Nat.le_of_ble_eq_true rfl) (R:=[(0,acM c l),(1,.slice CA cs.length cc),(2,.int .i64 w)]) (by kernel_rfl) (fun F =>?_)
 refine aag (aaa ?_)
 refine rtm (abX (.tmp aaf) (us:=(cfL c l)) rfl) ?_
 rintro b1
 refine rtn (aab .const).q ?_
 refine rtn (aab .const).q ?_
 refine aah (aad ?_)
 refine aag (aag (aaa ?_))
 refine rtn (aan (k:=1) (o':=1) (.tmp aaC) (by kernel_rfl) (by rfl)).q ?_
 refine rtn (aax (o:=0) (i:=1) (.tmp aaf) aaf (rfl) rfl (by kernel_rfl)) ?_
 refine rtn (ae3 (.tmp aaf) .const (w64 (by omega) (by omega))).q ?_
 refine rtn (aab (.tmp aaf)).q ?_
 refine aah (aad ?_)
 refine aaU ?_
 refine aey (X:=Nat) (fun k =>k) (fun k =>(k:Int)≤c.levels∧abw c cs w=acA c cs w k) (fun k =>[(8,.int .i64 (((k:Int)-1))),(3,.pointer (some ⟨b1,0,none⟩)),(1,.slice CA cs.length cc),(2,.int .i64 w)]) (fun k =>pts b1 0 (cfL c l)::[F]) c.levels.toNat (⟨by omega,rfl⟩) (.cons aaf (congrArg (Value.int .i64) (by first | rfl | omega | (simp; omega) | simp)) (.cons adz rfl (.cons adK rfl (.cons aff rfl .nil)))) (Ent.refl) (fun k hi2 =>?_)
 obtain ⟨hk1,hk2⟩:=hi2
 refine aag (aag (aaa ?_))
 refine rtn (aac (.tmp aaf)).q ?_
 refine rtn (acr (.tmp aaf) .const).q ?_
 refine aah (aad ?_)
 refine abT (.tmp aaf) (fun h3 =>?_) (fun h3 =>?_)
 ·refine aaD ?_
  refine aad (aag ?_)
  refine aaU ?_
  refine aag (aaa ?_)
  refine rtn (aab .const).q ?_
  refine aah (aad ?_)
  refine aag (aaa ?_)
  refine rtn (aaB (o:=0) (i:=0) (k:=11) (us:=(cfL c l)) (.tmp abk) aaf (rfl) (by kernel_rfl) rfl rfl) ?_
  refine rtn (aac (.tmp adz)).q ?_
  refine rtn (aac (.tmp adK)).q ?_
  refine rtn (aac (.tmp adz)).q ?_
  refine rtm (adj (by kernel_rfl) (.cons (.tmp aa1) (.cons (.tmp aaC) (.cons (.tmp aap) (.cons (.tmp aaf) .nil)))) (ai1 c l CA cc cs hv0 hn hl _ _ (by omega) (by omega) hS hcw hc) .nil) ?_
  rintro ⟨A4,c4⟩
  refine rtn (aab (.tmp aaf)).q ?_
  refine aah (aad ?_)
  refine aag (aag (aaa ?_))
  refine rtn (aab .const).q ?_
  refine aah (aad ?_)
  refine aaU ?_
  refine amd (afv 1) ?_
  have hxl:=aoT (c:=c) (cs:=cs) (w:=w) (l:=((k:Int)-1)) (by omega)
  refine agP (X:=Nat) (Y:=Option Addr) (Z:=Nat) (fun i A cx =>(ae0 c cs w ((k:Int)-1)).length-i) (fun i A cx =>i≤(ae0 c cs w ((k:Int)-1)).length) (fun i A cx =>[(11,.int .i64 ((i:Int))),(10,.slice A4 ((ae0 c cs w (((k:Int)-1))).length) c4),(23,.slice A4 ((ae0 c cs w (((k:Int)-1))).length) c4),(22,.int .i64 (((k:Int)-1))),(21,.int .i64 w),(20,.slice CA cs.length cc),(19,acM c l),(9,.slice A ((rdy c cs (ae0 c cs w ((k:Int)-1)) i).length) cx),(16,.bool (decide (0≤((k:Int)-1)))),(15,.int .i64 (((k:Int)-1))),(8,.int .i64 (((k:Int)-1))),(3,.pointer (some ⟨b1,0,none⟩)),(1,.slice CA cs.length cc),(2,.int .i64 w)]) (fun i A cx =>abA A ((rdy c cs (ae0 c cs w ((k:Int)-1)) i).length) cx 1 ((rdy c cs (ae0 c cs w ((k:Int)-1)) i).map (Value.int .i64))::abA A4 ((ae0 c cs w (((k:Int)-1))).length) c4 1 ((ae0 c cs w (((k:Int)-1))).map (Value.int .i64))::pts b1 0 (cfL c l)::[F]) 0 none 0 (by omega) (.cons aaf (congrArg (Value.int .i64) (by first | rfl | omega | (simp; omega) | simp)) (.cons aap rfl (.cons aaC rfl (.cons aa1 rfl (.cons abk rfl (.cons acU rfl (.cons adz rfl (.cons aeX rfl (.cons adK rfl (.cons aff rfl (.cons acP rfl (.cons acT rfl (.cons aeg rfl (.cons ad3 rfl .nil)))))))))))))) (Ent.refl) (fun i A cx hi5 =>?_)
  have hi0:=hi5
  have hrl:=aAy (c:=c) (cs:=cs) (xs:=(ae0 c cs w ((k:Int)-1))) (i:=i)
  refine aag (aag (aaa ?_))
  refine rtn (aac (.tmp aaf)).q ?_
  refine rtn (aac (.tmp aaC)).q ?_
  refine rtn (adq (.tmp aaf) Tryz.underlying24).q ?_
  refine rtn (abE (.tmp aaC) (.tmp aaf)).q ?_
  refine aah (aad ?_)
  refine abT (.tmp aaf) (fun h6 =>?_) (fun h6 =>?_)
  ·refine aaD ?_
   refine aad (aag ?_)
   refine aaU ?_
   refine aag ?_
   refine ad4 (by kernel_rfl) (by kernel_rfl) ?_
   refine qtn (aaB (o:=0) (i:=0) (k:=11) (us:=(cfL c l)) (.tmp adP) aaC (rfl) (by kernel_rfl) rfl rfl) ?_
   refine qtn (aac (.tmp ad9)).q ?_
   refine qtn (aac (.tmp aeX)).q ?_
   refine qtn (aac (.tmp aeX)).q ?_
   refine qtn (acj (i:=i) (.tmp aap) (.tmp aaf) aap (by omega) (by omega) (by omega) (by kernel_rfl) (Nat.mul_one _)) ?_
   refine qtn (adk (i:=i) (.tmp aaf) aap (agb (by first | omega | (simp; omega))) (by kernel_rfl)) ?_
   refine qtn (aaw (by kernel_rfl) (.cons (.tmp acU) (.cons (.tmp abk) (.cons (.tmp aaf) .nil))) (aiZ c l CA cc cs hn hl _ hS hcw _)) ?_
   refine adI (aad ?_)
   refine ajA (.tmp aaf) (fun h7 =>?_) (fun h7 =>?_)
   ·refine aaa ?_
    refine rtn (aac (.tmp aeP)).q ?_
    refine rtn (aac (.tmp ad3)).q ?_
    refine rtn (aac (.tmp ad3)).q ?_
    refine rtn (acj (i:=i) (.tmp aap) (.tmp aaf) aap (by omega) (by omega) (by omega) (by kernel_rfl) (Nat.mul_one _)) ?_
    refine rtn (adk (i:=i) (.tmp aaf) aap (agb (by first | omega | (simp; omega))) (by kernel_rfl)) ?_
    refine rtm (acg (T':=3) (us:=[.int .i64 ((gi ((ae0 c cs w (((k:Int)-1)))) i))]) (.cons (.tmp aaf) .nil) (fun _ =>by kernel_rfl)) ?_
    rintro b8
    refine rtm (afq (by_:=8) (z:=.int .i64 0) (.tmp acU) (.tmp aaf) (.cons agv (.cons aeW .nil)) Tryz.underlying24 (adF (by kernel_rfl)) rfl (by decide) rfl rfl (by decide) (by unfold maxLen; omega) (by omega)) ?_
    rintro ⟨A9,c9⟩
    refine aeM agL ?_
    refine aa5 (aab (.tmp aaf)).q aae (aaj (aa0 arG) (by kernel_rfl)) ?_
    refine aah ?_
    refine aa7 ?_
    refine aad (aaa ?_)
    refine rtn (aac (.tmp aev)).q ?_
    refine rtn (aaM (.tmp aaf) .const (w64 (by omega) (by omega))).q ?_
    refine aa5 (aab (.tmp aaf)).q aae (aaj (aa0 agv) (by kernel_rfl)) ?_
    refine aah ?_
    exact adU (n:=49) (i+1) A9 c9 (by omega) (by omega) (.cons aaf (congrArg (Value.int .i64) (by first | rfl | omega | (simp; omega) | simp)) (.cons (aar aaC) rfl (.cons (aar aa1) rfl (.cons (aar abk) rfl (.cons (aar acU) rfl (.cons (aar adz) rfl (.cons (aar aeX) rfl (.cons aa1 (congrArg (fun q =>Value.slice _ q _) (agq (by omega) (by assumption))) (.cons (aar adK) rfl (.cons (aar aff) rfl (.cons (aar acP) rfl (.cons (aar acT) rfl (.cons (aar aeg) rfl (.cons (aar ad3) rfl .nil)))))))))))))) (acQ (arj (by omega) (by assumption)) (agq (by omega) (by assumption)) Ent.refl)
   ·refine aaD ?_
    refine aa7 ?_
    refine aad (aaa ?_)
    refine rtn (aac (.tmp acT)).q ?_
    refine rtn (aaM (.tmp aaf) .const (w64 (by omega) (by omega))).q ?_
    refine aa5 (aab (.tmp aaf)).q aae (aaj afG (by kernel_rfl)) ?_
    refine aah ?_
    exact adU (n:=49) (i+1) A cx (by omega) (by omega) (.cons aaf (congrArg (Value.int .i64) (by first | rfl | omega | (simp; omega) | simp)) (.cons aew rfl (.cons adP rfl (.cons aem rfl (.cons ad9 rfl (.cons aeP rfl (.cons aev rfl (.cons (aar aaf) (congrArg (fun q =>Value.slice _ q _) (by rw [amZ (by omega) (by assumption)])) (.cons (aar aap) rfl (.cons (aar aaC) rfl (.cons (aar aa1) rfl (.cons (aar abk) rfl (.cons (aar acU) rfl (.cons (aar adz) rfl .nil)))))))))))))) (acQ (amZ (by omega) (by assumption)) (by rw [amZ (by omega) (by assumption)]) Ent.refl)
  ·refine aco ?_
   refine aaq ?_
   refine aaq ?_
   refine aaK ?_
   refine aad (aag (aaa ?_))
   refine rtn (aac (.tmp acT)).q ?_
   refine rtn (adq (.tmp aaf) Tryz.underlying24).q ?_
   refine rtn (afI (.tmp aaf) .const).q ?_
   refine aah (aad ?_)
   refine abT (.tmp aaf) (fun h10 =>?_) (fun h10 =>?_)
   ·refine aag (aaa ?_)
    refine rtn (aac (.tmp aew)).q ?_
    refine rtn (aac (.tmp aeP)).q ?_
    refine rtn (aab (.tmp aap)).q ?_
    refine rtn (aab (.tmp aap)).q ?_
    refine aah (aad (aaz ?_))
    refine abK ?_
    refine aao (aao ?_)
    refine abK ?_
    refine aao ?_
    have hra:=an4 (c:=c) (cs:=cs) (xs:=(ae0 c cs w ((k:Int)-1))) (i:=i) (by omega)
    have hb0:abw c cs w=(rdy c cs (ae0 c cs w ((k:Int)-1)) i,(k:Int)-1):=by rw [hk2,atI (by omega) (by rw [← hra]; exact aAK (by assumption)),hra]
    exact aeZ (A,cx) rfl (.cons aap (.cons aaf .nil)) (by rw [hb0]; rfl) (acQ (by rw [hb0]) (by rw [hb0]) (Ent.drop.trans Ent.drop))
   ·refine aaD ?_
    refine aa7 ?_
    refine aad (aaa ?_)
    refine rtn (aac (.tmp ad9)).q ?_
    refine rtn (ae3 (.tmp aaf) .const (w64 (by omega) (by omega))).q ?_
    refine aa5 (aab (.tmp aaf)).q aae (aaj agY (by kernel_rfl)) ?_
    refine aah ?_
    exact abW (n:=49) ((k-1)) (⟨by omega,by rw [hk2,ax3 (by omega) (by rw [← an4 (i:=i) (by omega)]; exact awR (by assumption))]⟩) (by omega) (.cons aaf (congrArg (Value.int .i64) (by first | rfl | omega | (simp; omega) | simp)) (.cons (aar aaf) rfl (.cons (aar aap) rfl (.cons (aar aaC) rfl .nil)))) ((Ent.drop.trans Ent.drop))
 ·refine aco ?_
  refine aaq ?_
  refine aaq ?_
  refine aaK ?_
  refine aad (aag (aaa ?_))
  refine rtn (aab .const).q ?_
  refine rtn (aab .const).q ?_
  refine aah (aad (aaz ?_))
  have hb0:abw c cs w=([],-1):=by rw [hk2,show k=0 by omega]; rfl
  exact aeZ (none,0) rfl (.cons aap (.cons aaf .nil)) (by rw [hb0]; rfl) (adb (by rw [hb0]) (by rw [hb0]; rfl) Ent.drop)
section
variable {r:Option Nat} {P:Program} {Q:Exit→Act→World→Prop} {n B:Nat} {W:World} {R R' R0:abn} {L L' M:List aak} {v u:Value} {x y z:Operand} {o:Oper} {ops:Array Oper}
 {d:Option Tmp} {ty:TypeId} {ps:String} {af:Array Edge} {g:Option (Nat×Bool)} {T T':TypeId}
def aa2 (h:Hp):Hp:=fun b o =>match h b o with
 | some (.cell v) =>some (.cell v)
 | _ =>none
theorem amX {A:Option Addr} {m cap sz:Nat} {vs:List Value} {h:Hp}:abA A m cap sz vs h→abA A m cap sz vs (aa2 h):=fun ⟨a,b,c,d⟩ =>
 ⟨a,b,c,d.imp id fun ⟨b,o,sp,e1,e2,hp⟩ =>⟨b,o,sp,e1,e2,fun i v hi =>by unfold aa2; rw [hp i v hi]⟩⟩
theorem awx {f:FuncId} {xs:List Operand} {ts:Array TypeId} {vs:List Value} {X:Type} {v:X→Value} {N:X→List aak} (hN:∀ x,∃ A m c s us,N x=[abA A m c s us]) (hc:akT P f=true) (hxs:EvalRs R xs vs)
  (h:∀ w,Cls B W L w→Fn_ P f vs.toArray w.heap.size w [] v N):OT P n B W ⟨d,.call ⟨.value (.func f),xs.toArray,ts⟩,ty,ps,af,g⟩ R L v (fun x =>N x++L):=fun a w s =>by
 rw [alL (fst:=#[]) (cap:=#[]) (EvalR.func.eval s.regs) hc (by simpa using hxs.eval s.regs)]
 show Calls P f _ w _
 have h1:=h w s.cls (fun _ =>True) w ⟨Below.refl _ _,Nat.le_refl _,⟨fun _ _ =>none,(fun _ _ _ (e:none=some _) =>by cases e),fun _ _ =>none,fun _ _ =>none,fun _ _ =>.inl rfl,rfl,trivial,trivial⟩⟩
 have e:(#[]++vs.toArray++#[]:Array Value)=vs.toArray:=by simp
 rw [e]
 refine h1.mono fun e w' ⟨x,he,hb⟩ =>?_
 refine ⟨x,he,s.below.trans (hb.1.mono s.lo),Nat.le_trans s.lo hb.1.size,?_⟩
 obtain ⟨k1,H1,hs1⟩:=hb.2.2
 obtain ⟨k2,H2,hs2⟩:=s.sat
 obtain ⟨A,m,c,sz,us,eN⟩:=hN x
 show Sat B w' (N x++L)
 rw [eN] at hs1 ⊢
 obtain ⟨k3,k4,ap,e1,h3,_⟩:=aau.1 hs1
 obtain ⟨q1,q2,aq,e2,hr,_⟩:=h3
 have hr':=amX hr
 have H3:∀ b o y,aa2 q1 b o=some y→k1 b o=some y∧∃ v,y=.cell v:=fun b o y hy =>by
  unfold aa2 at hy
  split at hy
  ·rename_i u hq
   cases hy
   exact ⟨by rw [e1]; unfold acI; rw [e2]; unfold acI; rw [hq],u,rfl⟩
  ·cases hy
 have lo:∀ b o y,aa2 q1 b o=some y→w.heap.size≤b:=fun b o y hy =>by
  obtain ⟨h4,u,rfl⟩:=H3 b o y hy
  exact (H1 b o _ h4).1.resolve_right (fun hl =>hl.elim)
 have hap:apart (aa2 q1) k2:=fun b o =>by
  cases e3:aa2 q1 b o with
  | none =>exact .inl rfl
  | some y =>
   cases e4:k2 b o with
   | none =>exact .inr (.inl rfl)
   | some z =>
    exfalso
    have a1:=lo b o y e3
    have a2:=(H2 b o z e4).2.lt
    omega
 refine ⟨acI (aa2 q1) k2,fun b o y hy =>?_,aau.2 ⟨aa2 q1,k2,hap,rfl,⟨aa2 q1,fun _ _ =>none,fun _ _ =>.inr (.inl rfl),by funext b o; unfold acI; cases aa2 q1 b o<;>rfl,hr',trivial⟩,hs2⟩⟩
 unfold acI at hy
 cases e3:aa2 q1 b o with
 | some z =>
  rw [e3] at hy
  obtain rfl:=Option.some.inj hy
  have a1:=H1 b o z (H3 b o z e3).1
  exact ⟨.inl (Nat.le_trans s.lo (lo b o z e3)),a1.2⟩
 | none =>
  rw [e3] at hy
  have a2:=H2 b o y hy
  exact ⟨a2.1,a2.2.same (hb.1.block _ a2.2.lt)⟩
end
end
end Go.Proofs.YtjjbdbbmdhncjaaGreat
