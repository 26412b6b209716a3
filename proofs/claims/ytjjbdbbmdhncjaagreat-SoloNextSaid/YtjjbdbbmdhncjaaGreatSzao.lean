/- Walks by program: the layout. Walks by program: words,sizes,powers,the remainder. Walks by program: the length of a word,the choice of a victim. Plain facts on sorting by insertion,and on the choice of a victim. Walks by program: the choice of a victim,the sorts. -/
import Derived.Test.YtjjbdbbmdhncjaaGreatSzan
import Derived.Test.YtjjbdbbmdhncjaaGreatSzab
set_option linter.all false
namespace Go.Proofs.YtjjbdbbmdhncjaaGreat
section
open Go Go.RowKit
def anq (c:Cfg):Int:=4+c.heap
def anr (c:Cfg):Int:=anq c+c.classes
def aqj (c:Cfg):Int:=anr c+c.workers
abbrev lyL (c:Cfg):List Value:=[.int .i64 c.workers,.int .i64 c.levels,.int .i64 c.classes,.int .i64 c.tasks,.int .i64 c.deque,.int .i64 c.heap,.int .i64 ((anq c)),.int .i64 ((anr c)),.int .i64 ((aqj c)),.int .i64 ((aaY c)),.int .i64 ((abh c))]
abbrev pcL (c:Cfg) (l:CfgAt) (CA:Option Addr) (cc:Nat) (cs:List Int):List Value:=[.int .i64 c.workers,.int .i64 c.levels,.int .i64 c.classes,.int .i64 c.tasks,.int .i64 c.deque,.int .i64 c.heap,.int .i64 c.batch,.int .i64 c.age,.int .i64 c.patience,.slice l.pa c.progs.length l.pc,.slice l.sa c.subs.length l.sc,.int .i64 c.workers,.int .i64 c.levels,.int .i64 c.classes,.int .i64 c.tasks,.int .i64 c.deque,.int .i64 c.heap,.int .i64 ((anq c)),.int .i64 ((anr c)),.int .i64 ((aqj c)),.int .i64 ((aaY c)),.int .i64 ((abh c)),.slice CA cs.length cc]
theorem awV (c:Cfg):aqj c+c.workers=aaY c:=by unfold aqj anr anq aaY; omega
theorem agR (c:Cfg) (l:CfgAt) {B:Nat} {W:World} (hc:acR W B c l) (L:List aak):adV Tryz.prog 72 #[acM c l] B W L (.int .i64 (abB c)) :=
 ajk fun w hb hl =>aqE c l w ((hc.below hb).more hl)
theorem an1 (c:Cfg) (l:CfgAt) {B:Nat} {W:World} (hc:acR W B c l) (L:List aak):adV Tryz.prog 126 #[acM c l] B W L (.int .i64 (abB c)) :=
 ajk fun w hb hl =>apJ c l w ((hc.below hb).more hl)
theorem axB (d n:Int) (hn:n≤9223372036854775807) {B:Nat} {W:World} (L:List aak):adV Tryz.prog 24 #[.int .i64 d,.int .i64 n] B W L (.int .i64 (acJ d n)) :=
 ap3 fun w =>azW d n w hn
set_option maxRecDepth 100000 in
theorem ajs (c:Cfg) (hn:CNums c) (B:Nat) (W:World) (L:List aak):adV Tryz.prog 83 #[.agg (lyL c).toArray] B W L (.int .i64 (aaQ c)):=by
 have hn0:=hn
 obtain ⟨h1,h2,h3,h4,h5,h6,h7,h8,h9,h10⟩:=hn
 obtain ⟨t1,t2,t3,t4,t5⟩:=afw hn0
 have hdq:8≤aaY c∧aaY c≤200:=by unfold aaY; omega
 refine aay Tryz.func83 rfl (m:=9) rfl (Nat.le_of_ble_eq_true rfl) (R:=[(0,.agg (lyL c).toArray)]) (by kernel_rfl) ?_
 refine aag (aaa ?_)
 refine rtm (abX (.tmp aaf) (us:=(lyL c)) rfl) ?_
 rintro b1
 refine rtn (aab .const).q ?_
 refine aah (aad ?_)
 refine aag (aaa ?_)
 refine rtn (aan (k:=10) (o':=10) (.tmp aap) (by kernel_rfl) (by rfl)).q ?_
 refine rtn (aax (o:=0) (i:=10) (.tmp aaf) aaf (rfl) rfl (by kernel_rfl)) ?_
 refine rtn (aan (k:=3) (o':=3) (.tmp aa1) (by kernel_rfl) (by rfl)).q ?_
 refine rtn (aax (o:=0) (i:=3) (.tmp aaf) aaf (rfl) rfl (by kernel_rfl)) ?_
 refine rtn (ae4 .const (.tmp aaf) (w64 (by omega) (by omega))).q ?_
 refine rtn (aaM (.tmp aa1) (.tmp aaf) (w64 (by omega) (by omega))).q ?_
 refine aa5 (aab (.tmp aaf)).q aae (aaj aom (by kernel_rfl)) ?_
 refine aah (aad (aaz ?_))
 exact aaN rfl (.cons aaf .nil) (by rfl) Ent.drop
set_option maxRecDepth 100000 in
theorem aqh (c:Cfg) (hn:CNums c) (i:Int) (B:Nat) (W:World) (L:List aak):adV Tryz.prog 179 #[.agg (lyL c).toArray,.int .i64 i] B W L (.int .i64 (atV i c.heap 4 1)):=by
 have hn0:=hn
 obtain ⟨h1,h2,h3,h4,h5,h6,h7,h8,h9,h10⟩:=hn
 obtain ⟨t1,t2,t3,t4,t5⟩:=afw hn0
 have hdq:8≤aaY c∧aaY c≤200:=by unfold aaY; omega
 refine aay Tryz.func179 rfl (m:=9) rfl (Nat.le_of_ble_eq_true rfl) (R:=[(0,.agg (lyL c).toArray),(1,.int .i64 i)]) (by kernel_rfl) ?_
 refine aag (aaa ?_)
 refine rtm (abX (.tmp aaf) (us:=(lyL c)) rfl) ?_
 rintro b1
 refine rtn (aab .const).q ?_
 refine aah (aad ?_)
 refine aag (aaa ?_)
 refine rtn (aac (.tmp aa1)).q ?_
 refine rtn (aan (k:=5) (o':=5) (.tmp aaC) (by kernel_rfl) (by rfl)).q ?_
 refine rtn (aax (o:=0) (i:=5) (.tmp aaf) aaf (rfl) rfl (by kernel_rfl)) ?_
 refine rtn (aaw (by kernel_rfl) (.cons (.tmp aaC) (.cons (.tmp aaf) (.cons .const (.cons .const .nil)))) (ah2 _ _ _ _ (by intro h1 h2; refine ⟨?_,?_⟩<;>omega) B W _)) ?_
 refine aa5 (aab (.tmp aaf)).q aae (aaj ajm (by kernel_rfl)) ?_
 refine aah (aad (aaz ?_))
 exact aaN rfl (.cons aaf .nil) (by rfl) Ent.drop
set_option maxRecDepth 100000 in
theorem aqi (c:Cfg) (hn:CNums c) (B:Nat) (W:World) (L:List aak):adV Tryz.prog 177 #[.agg (lyL c).toArray] B W L (.int .i64 2):=by
 have hn0:=hn
 obtain ⟨h1,h2,h3,h4,h5,h6,h7,h8,h9,h10⟩:=hn
 obtain ⟨t1,t2,t3,t4,t5⟩:=afw hn0
 have hdq:8≤aaY c∧aaY c≤200:=by unfold aaY; omega
 refine aay Tryz.func177 rfl (m:=3) rfl (Nat.le_of_ble_eq_true rfl) (R:=[(0,.agg (lyL c).toArray)]) (by kernel_rfl) ?_
 refine aag (aaa ?_)
 refine rtm (abX (.tmp aaf) (us:=(lyL c)) rfl) ?_
 rintro b1
 refine rtn (aab .const).q ?_
 refine aah (aad ?_)
 refine aag (aaa ?_)
 refine aa5 (aab .const).q aae (aaj aeW (by kernel_rfl)) ?_
 refine aah (aad (aaz ?_))
 exact aaN rfl (.cons aaf .nil) (by rfl) Ent.drop
set_option maxRecDepth 100000 in
theorem akD (c:Cfg) (hn:CNums c) (t k:Int) (hk:0≤k) (hk4:k≤4) (B:Nat) (W:World) (L:List aak):adV Tryz.prog 180 #[.agg (lyL c).toArray,.int .i64 t,.int .i64 k] B W L (.int .i64 (atV t c.tasks (abh c+k) 5)):=by
 have hn0:=hn
 obtain ⟨h1,h2,h3,h4,h5,h6,h7,h8,h9,h10⟩:=hn
 obtain ⟨t1,t2,t3,t4,t5⟩:=afw hn0
 have hdq:8≤aaY c∧aaY c≤200:=by unfold aaY; omega
 refine aay Tryz.func180 rfl (m:=15) rfl (Nat.le_of_ble_eq_true rfl) (R:=[(0,.agg (lyL c).toArray),(1,.int .i64 t),(2,.int .i64 k)]) (by kernel_rfl) ?_
 refine aag (aaa ?_)
 refine rtm (abX (.tmp aaf) (us:=(lyL c)) rfl) ?_
 rintro b1
 refine rtn (aab .const).q ?_
 refine aah (aad ?_)
 refine aag (aaa ?_)
 refine rtn (aac (.tmp aa1)).q ?_
 refine rtn (aan (k:=3) (o':=3) (.tmp aaC) (by kernel_rfl) (by rfl)).q ?_
 refine rtn (aax (o:=0) (i:=3) (.tmp aaf) aaf (rfl) rfl (by kernel_rfl)) ?_
 refine rtn (aan (k:=10) (o':=10) (.tmp abk) (by kernel_rfl) (by rfl)).q ?_
 refine rtn (aax (o:=0) (i:=10) (.tmp aaf) aaf (rfl) rfl (by kernel_rfl)) ?_
 refine rtn (aac (.tmp aff)).q ?_
 refine rtn (aaM (.tmp aap) (.tmp aaf) (w64 (by omega) (by omega))).q ?_
 refine rtn (aaw (by kernel_rfl) (.cons (.tmp adz) (.cons (.tmp abk) (.cons (.tmp aaf) (.cons .const .nil)))) (ah2 _ _ _ _ (by intro h1 h2; refine ⟨?_,?_⟩<;>omega) B W _)) ?_
 refine aa5 (aab (.tmp aaf)).q aae (aaj arF (by kernel_rfl)) ?_
 refine aah (aad (aaz ?_))
 exact aaN rfl (.cons aaf .nil) (by rfl) Ent.drop
set_option maxRecDepth 100000 in
theorem aox (c:Cfg) (hn:CNums c) (t:Int) (B:Nat) (W:World) (L:List aak):adV Tryz.prog 175 #[.agg (lyL c).toArray,.int .i64 t] B W L (.int .i64 (atV t c.tasks (abh c+0) 5)):=by
 refine aay Tryz.func175 rfl (m:=8) rfl (Nat.le_of_ble_eq_true rfl) (R:=[(0,.agg (lyL c).toArray),(1,.int .i64 t)]) (by kernel_rfl) ?_
 refine aag (aaa ?_)
 refine rtm (abX (.tmp aaf) (us:=(lyL c)) rfl) ?_
 rintro b1
 refine rtn (aab .const).q ?_
 refine aah (aad ?_)
 refine aag (aaa ?_)
 refine rtn (aaB (o:=0) (i:=0) (k:=11) (us:=(lyL c)) (.tmp aap) aaf (rfl) (by kernel_rfl) rfl rfl) ?_
 refine rtn (aac (.tmp abk)).q ?_
 refine rtn (aaw (by kernel_rfl) (.cons (.tmp aap) (.cons (.tmp aaf) (.cons .const .nil))) (akD c hn _ _ (by omega) (by omega) B W _)) ?_
 refine aa5 (aab (.tmp aaf)).q aae (aaj auz (by kernel_rfl)) ?_
 refine aah (aad (aaz ?_))
 exact aaN rfl (.cons aaf .nil) (by rfl) Ent.drop
set_option maxRecDepth 100000 in
theorem aoz (c:Cfg) (hn:CNums c) (t:Int) (B:Nat) (W:World) (L:List aak):adV Tryz.prog 120 #[.agg (lyL c).toArray,.int .i64 t] B W L (.int .i64 (atV t c.tasks (abh c+1) 5)):=by
 refine aay Tryz.func120 rfl (m:=8) rfl (Nat.le_of_ble_eq_true rfl) (R:=[(0,.agg (lyL c).toArray),(1,.int .i64 t)]) (by kernel_rfl) ?_
 refine aag (aaa ?_)
 refine rtm (abX (.tmp aaf) (us:=(lyL c)) rfl) ?_
 rintro b1
 refine rtn (aab .const).q ?_
 refine aah (aad ?_)
 refine aag (aaa ?_)
 refine rtn (aaB (o:=0) (i:=0) (k:=11) (us:=(lyL c)) (.tmp aap) aaf (rfl) (by kernel_rfl) rfl rfl) ?_
 refine rtn (aac (.tmp abk)).q ?_
 refine rtn (aaw (by kernel_rfl) (.cons (.tmp aap) (.cons (.tmp aaf) (.cons .const .nil))) (akD c hn _ _ (by omega) (by omega) B W _)) ?_
 refine aa5 (aab (.tmp aaf)).q aae (aaj auz (by kernel_rfl)) ?_
 refine aah (aad (aaz ?_))
 exact aaN rfl (.cons aaf .nil) (by rfl) Ent.drop
set_option maxRecDepth 100000 in
theorem aoy (c:Cfg) (hn:CNums c) (w v:Int) (hw:0≤w∧w<c.workers) (hv:0≤v∧v<c.levels) (B:Nat) (W:World) (L:List aak):adV Tryz.prog 102 #[.agg (lyL c).toArray,.int .i64 w,.int .i64 v] B W L (.agg #[.int .i64 (acZ c w v),.int .i64 (acZ c w v+1),.int .i64 (acZ c w v+2),.int .i64 c.deque]):=by
 obtain ⟨q1,q2,q3,q4,q5,q6⟩:=asz hn hw hv
 have hn0:=hn
 obtain ⟨h1,h2,h3,h4,h5,h6,h7,h8,h9,h10⟩:=hn
 obtain ⟨t1,t2,t3,t4,t5⟩:=afw hn0
 have hdq:8≤aaY c∧aaY c≤200:=by unfold aaY; omega
 have e1:atV w c.workers (aaY c) (c.levels*(2+c.deque))=aaY c+w*(c.levels*(2+c.deque)):=by unfold atV; rw [if_neg (by omega)]
 have e2:atV v c.levels (atV w c.workers (aaY c) (c.levels*(2+c.deque))) (2+c.deque)=acZ c w v:=by rw [e1]; unfold atV; rw [if_neg (by omega)]; exact aA7 c w v
 refine aay Tryz.func102 rfl (m:=44) rfl (Nat.le_of_ble_eq_true rfl) (R:=[(0,.agg (lyL c).toArray),(1,.int .i64 w),(2,.int .i64 v)]) (by kernel_rfl) ?_
 refine aag (aaa ?_)
 refine rtm (abX (.tmp aaf) (us:=(lyL c)) rfl) ?_
 rintro b1
 refine rtm (acd (v:=.agg #[.int .i64 0,.int .i64 0,.int .i64 0,.int .i64 0]) (us:=[.int .i64 0,.int .i64 0,.int .i64 0,.int .i64 0]) (by kernel_rfl) rfl) ?_
 rintro b2
 refine aah (aad ?_)
 refine aag (aaa ?_)
 refine rtn (aan (k:=4) (o':=4) (.tmp aap) (by kernel_rfl) (by rfl)).q ?_
 refine rtn (aax (o:=0) (i:=4) (.tmp aaf) aap (rfl) rfl (by kernel_rfl)) ?_
 refine rtn (aaM .const (.tmp aaf) (w64 (by omega) (by omega))).q ?_
 refine rtn (aab (.tmp aaf)).q ?_
 refine aah (aad ?_)
 refine aag (aaa ?_)
 refine rtn (aac (.tmp aeX)).q ?_
 refine rtn (aan (k:=0) (o':=0) (.tmp adz) (by kernel_rfl) (by rfl)).q ?_
 refine rtn (aax (o:=0) (i:=0) (.tmp aaf) aap (rfl) rfl (by kernel_rfl)) ?_
 refine rtn (aan (k:=9) (o':=9) (.tmp adK) (by kernel_rfl) (by rfl)).q ?_
 refine rtn (aax (o:=0) (i:=9) (.tmp aaf) aap (rfl) rfl (by kernel_rfl)) ?_
 refine rtn (aan (k:=1) (o':=1) (.tmp acP) (by kernel_rfl) (by rfl)).q ?_
 refine rtn (aax (o:=0) (i:=1) (.tmp aaf) aap (rfl) rfl (by kernel_rfl)) ?_
 refine rtn (aac (.tmp aeX)).q ?_
 refine rtn (ae4 (.tmp aap) (.tmp aaf) (w64 (by omega) (by omega))).q ?_
 refine rtn (aaw (by kernel_rfl) (.cons (.tmp adK) (.cons (.tmp adz) (.cons (.tmp abk) (.cons (.tmp aaf) .nil)))) (ah2 _ _ _ _ (by intro h1 h2; refine ⟨?_,?_⟩<;>omega) B W _)) ?_
 refine rtn (aab (.tmp aaf)).q ?_
 refine aah (aad ?_)
 refine aag (aaa ?_)
 refine rtn (aac (.tmp aev)).q ?_
 refine rtn (aan (k:=1) (o':=1) (.tmp ad9) (by kernel_rfl) (by rfl)).q ?_
 refine rtn (aax (o:=0) (i:=1) (.tmp aaf) aap (rfl) rfl (by kernel_rfl)) ?_
 refine rtn (aac (.tmp aa1)).q ?_
 refine rtn (aac (.tmp adP)).q ?_
 refine rtn (aaw (by kernel_rfl) (.cons (.tmp abk) (.cons (.tmp aaC) (.cons (.tmp aap) (.cons (.tmp aaf) .nil)))) (ah2 _ _ _ _ (by intro h1 h2; refine ⟨?_,?_⟩<;>omega) B W _)) ?_
 refine rtn (aab (.tmp aaf)).q ?_
 refine aah (aad ?_)
 refine aag (aag (aaa ?_))
 refine rtn (aac (.tmp aeX)).q ?_
 refine rtn (abE (.tmp aaf) .const).q ?_
 refine rtn (aac (.tmp aaf)).q ?_
 refine abm aaR aaR (fun h3 =>?_) (fun h3 =>?_)
 ·exact absurd h3 (by omega)
 ·refine rts (aac (.tmp aa1)).q aaf ?_
  refine rts (abE (.tmp aaf) .const).q aap ?_
  refine rtn (aat (b:=false) (.tmp aaC) (.tmp aaf)).q ?_
  refine aah (aad ?_)
  refine abT (.tmp aaf) (fun h4 =>?_) (fun h4 =>?_)
  ·exact absurd h4 (by omega)
  ·refine aaD ?_
   refine aad (aag (aaa ?_))
   refine rtn (aac (.tmp adz)).q ?_
   refine rtn (aac (.tmp aeX)).q ?_
   refine rtn (aaM (.tmp aaf) .const (w64 (by omega) (by omega))).q ?_
   refine rtn (aac (.tmp aff)).q ?_
   refine rtn (aaM (.tmp aaf) .const (w64 (by omega) (by omega))).q ?_
   refine rtn (aan (k:=4) (o':=4) (.tmp (aar aew)) (by kernel_rfl) (by rfl)).q ?_
   refine rtn (aax (o:=0) (i:=4) (.tmp aaf) aap (rfl) rfl (by kernel_rfl)) ?_
   refine rtn (aeE (v:=.agg #[.int .i64 ((atV v c.levels ((atV w c.workers ((aaY c)) ((c.levels*(2+c.deque))))) ((2+c.deque)))),.int .i64 (((atV v c.levels ((atV w c.workers ((aaY c)) ((c.levels*(2+c.deque))))) ((2+c.deque)))+1)),.int .i64 (((atV v c.levels ((atV w c.workers ((aaY c)) ((c.levels*(2+c.deque))))) ((2+c.deque)))+2)),.int .i64 c.deque]) (.cons (.tmp adz) (.cons (.tmp abk) (.cons (.tmp aaC) (.cons (.tmp aaf) .nil)))) (fun _ =>by kernel_rfl)).q ?_
   refine ahi (abg (o:=0) (i:=0) (k:=4) (us:=[.int .i64 ((atV v c.levels ((atV w c.workers ((aaY c)) ((c.levels*(2+c.deque))))) ((2+c.deque)))),.int .i64 (((atV v c.levels ((atV w c.workers ((aaY c)) ((c.levels*(2+c.deque))))) ((2+c.deque)))+1)),.int .i64 (((atV v c.levels ((atV w c.workers ((aaY c)) ((c.levels*(2+c.deque))))) ((2+c.deque)))+2)),.int .i64 c.deque]) (ws:=[.int .i64 ((atV v c.levels ((atV w c.workers ((aaY c)) ((c.levels*(2+c.deque))))) ((2+c.deque)))),.int .i64 (((atV v c.levels ((atV w c.workers ((aaY c)) ((c.levels*(2+c.deque))))) ((2+c.deque)))+1)),.int .i64 (((atV v c.levels ((atV w c.workers ((aaY c)) ((c.levels*(2+c.deque))))) ((2+c.deque)))+2)),.int .i64 c.deque]) (.tmp (aar aem)) (.tmp aaf) aaR (rfl) (by kernel_rfl) rfl (by decide) rfl rfl (by simp) rfl) aae (fun _ =>aa3) (fun _ =>?_)
   refine aah (aad (aaz ?_))
   exact aaN rfl (.cellA (m:=4) (ws:=[.int .i64 ((atV v c.levels ((atV w c.workers ((aaY c)) ((c.levels*(2+c.deque))))) ((2+c.deque)))),.int .i64 (((atV v c.levels ((atV w c.workers ((aaY c)) ((c.levels*(2+c.deque))))) ((2+c.deque)))+1)),.int .i64 (((atV v c.levels ((atV w c.workers ((aaY c)) ((c.levels*(2+c.deque))))) ((2+c.deque)))+2)),.int .i64 c.deque]) (aar aem) aaf (by kernel_rfl) rfl rfl .nil) (by rw [e2]; rfl) (Ent.drop.trans Ent.drop)
set_option maxRecDepth 100000 in
theorem alS (c:Cfg) (l:CfgAt) (hv:abB c=0) {B:Nat} {W:World} (hc:acR W B c l) (L:List aak):adV Tryz.prog 81 #[acM c l] B W L (.tuple #[.agg (lyL c).toArray,.int .i64 0]):=by
 have hn0:=aoX (ac9 hv)
 have hn1:=hn0
 obtain ⟨h1,h2,h3,h4,h5,h6,h7,h8,h9,h10⟩:=hn1
 have hdq:=awV c
 have hs1:anq c=4+c.heap:=rfl
 have hs2:anr c=anq c+c.classes:=rfl
 have hs3:aqj c=anr c+c.workers:=rfl
 refine aay Tryz.func81 rfl (m:=61) rfl (Nat.le_of_ble_eq_true rfl) (R:=[(0,acM c l)]) (by kernel_rfl) ?_
 refine aag (aaa ?_)
 refine rtm (abX (.tmp aaf) (us:=(cfL c l)) rfl) ?_
 rintro b1
 refine rtm (acd (v:=.agg zyL.toArray) (us:=zyL) (by kernel_rfl) rfl) ?_
 rintro b2
 refine rtn (aab .const).q ?_
 refine aah (aad ?_)
 refine aag (aag (aaa ?_))
 refine rtn (aaB (o:=0) (i:=0) (k:=11) (us:=(cfL c l)) (.tmp aaC) aap (rfl) (by kernel_rfl) rfl rfl) ?_
 refine rtn (aaw (by kernel_rfl) (.cons (.tmp aaf) .nil) (agR c l hc _)) ?_
 refine rtn (aab (.tmp aaf)).q ?_
 refine aah (aad ?_)
 refine aag (aaa ?_)
 refine rtn (aac (.tmp aaf)).q ?_
 refine rtn (agZ (.tmp aaf) .const).q ?_
 refine aah (aad ?_)
 refine abT (.tmp aaf) (fun h3 =>?_) (fun h3 =>?_)
 ·exact absurd hv h3
 ·refine aaD ?_
  refine aad (aag (aaa ?_))
  refine rtn (aan (k:=0) (o':=0) (.tmp aeX) (by kernel_rfl) (by rfl)).q ?_
  refine rtn (aax (o:=0) (i:=0) (.tmp aaf) aap (rfl) rfl (by kernel_rfl)) ?_
  refine rtn (aan (k:=1) (o':=1) (.tmp aff) (by kernel_rfl) (by rfl)).q ?_
  refine rtn (aax (o:=0) (i:=1) (.tmp aaf) aap (rfl) rfl (by kernel_rfl)) ?_
  refine rtn (aan (k:=2) (o':=2) (.tmp acT) (by kernel_rfl) (by rfl)).q ?_
  refine rtn (aax (o:=0) (i:=2) (.tmp aaf) aap (rfl) rfl (by kernel_rfl)) ?_
  refine rtn (aan (k:=3) (o':=3) (.tmp ad3) (by kernel_rfl) (by rfl)).q ?_
  refine rtn (aax (o:=0) (i:=3) (.tmp aaf) aap (rfl) rfl (by kernel_rfl)) ?_
  refine rtn (aan (k:=4) (o':=4) (.tmp adP) (by kernel_rfl) (by rfl)).q ?_
  refine rtn (aax (o:=0) (i:=4) (.tmp aaf) aap (rfl) rfl (by kernel_rfl)) ?_
  refine rtn (aan (k:=5) (o':=5) (.tmp ad9) (by kernel_rfl) (by rfl)).q ?_
  refine rtn (aax (o:=0) (i:=5) (.tmp aaf) aap (rfl) rfl (by kernel_rfl)) ?_
  refine rtn (aeE (v:=.agg #[.int .i64 c.workers,.int .i64 c.levels,.int .i64 c.classes,.int .i64 c.tasks,.int .i64 c.deque,.int .i64 c.heap,.int .i64 0,.int .i64 0,.int .i64 0,.int .i64 0,.int .i64 0]) (.cons (.tmp acP) (.cons (.tmp adK) (.cons (.tmp adz) (.cons (.tmp abk) (.cons (.tmp aaC) (.cons (.tmp aaf) .nil)))))) (fun _ =>by kernel_rfl)).q ?_
  refine rtm (acd (v:=.agg zyL.toArray) (us:=zyL) (by kernel_rfl) rfl) ?_
  rintro b4
  refine ahi (abg (o:=0) (i:=0) (k:=11) (us:=[.int .i64 c.workers,.int .i64 c.levels,.int .i64 c.classes,.int .i64 c.tasks,.int .i64 c.deque,.int .i64 c.heap,.int .i64 0,.int .i64 0,.int .i64 0,.int .i64 0,.int .i64 0]) (ws:=[.int .i64 c.workers,.int .i64 c.levels,.int .i64 c.classes,.int .i64 c.tasks,.int .i64 c.deque,.int .i64 c.heap,.int .i64 0,.int .i64 0,.int .i64 0,.int .i64 0,.int .i64 0]) (.tmp aaf) (.tmp aap) aaR (rfl) (by kernel_rfl) rfl (by decide) rfl rfl (by simp) rfl) aae (fun _ =>aa3) (fun _ =>?_)
  refine aah (aad ?_)
  refine aag (aaa ?_)
  refine rtn (aan (k:=5) (o':=5) (.tmp aaf) (by kernel_rfl) (by rfl)).q ?_
  refine rtn (aax (o:=0) (i:=5) (.tmp aaf) aaf (rfl) rfl (by kernel_rfl)) ?_
  refine rtn (aaM .const (.tmp aaf) (w64 (by omega) (by omega))).q ?_
  refine rtn (aan (k:=6) (o':=6) (.tmp aa1) (by kernel_rfl) (by rfl)).q ?_
  refine ahi (abg (o:=0) (i:=6) (k:=1) (us:=[.int .i64 ((4+c.heap))]) (ws:=[.int .i64 c.workers,.int .i64 c.levels,.int .i64 c.classes,.int .i64 c.tasks,.int .i64 c.deque,.int .i64 c.heap,.int .i64 ((4+c.heap)),.int .i64 0,.int .i64 0,.int .i64 0,.int .i64 0]) (.tmp aaf) (.tmp aap) aaR (rfl) (by kernel_rfl) rfl (by decide) rfl rfl (by simp) rfl) aae (fun _ =>aa3) (fun _ =>?_)
  refine aah (aad ?_)
  refine aag (aaa ?_)
  refine rtn (aan (k:=6) (o':=6) (.tmp abk) (by kernel_rfl) (by rfl)).q ?_
  refine rtn (aax (o:=0) (i:=6) (.tmp aaf) aaf (rfl) rfl (by kernel_rfl)) ?_
  refine rtn (aan (k:=2) (o':=2) (.tmp adz) (by kernel_rfl) (by rfl)).q ?_
  refine rtn (aax (o:=0) (i:=2) (.tmp aaf) aaf (rfl) rfl (by kernel_rfl)) ?_
  refine rtn (aaM (.tmp aaC) (.tmp aaf) (w64 (by omega) (by omega))).q ?_
  refine rtn (aan (k:=7) (o':=7) (.tmp aff) (by kernel_rfl) (by rfl)).q ?_
  refine ahi (abg (o:=0) (i:=7) (k:=1) (us:=[.int .i64 (((4+c.heap)+c.classes))]) (ws:=[.int .i64 c.workers,.int .i64 c.levels,.int .i64 c.classes,.int .i64 c.tasks,.int .i64 c.deque,.int .i64 c.heap,.int .i64 ((4+c.heap)),.int .i64 (((4+c.heap)+c.classes)),.int .i64 0,.int .i64 0,.int .i64 0]) (.tmp aaf) (.tmp aap) aaR (rfl) (by kernel_rfl) rfl (by decide) rfl rfl (by simp) rfl) aae (fun _ =>aa3) (fun _ =>?_)
  refine aah (aad ?_)
  refine aag (aaa ?_)
  refine rtn (aan (k:=7) (o':=7) (.tmp acP) (by kernel_rfl) (by rfl)).q ?_
  refine rtn (aax (o:=0) (i:=7) (.tmp aaf) aaf (rfl) rfl (by kernel_rfl)) ?_
  refine rtn (aan (k:=0) (o':=0) (.tmp aeg) (by kernel_rfl) (by rfl)).q ?_
  refine rtn (aax (o:=0) (i:=0) (.tmp aaf) aaf (rfl) rfl (by kernel_rfl)) ?_
  refine rtn (aaM (.tmp aaC) (.tmp aaf) (w64 (by omega) (by omega))).q ?_
  refine rtn (aan (k:=8) (o':=8) (.tmp adP) (by kernel_rfl) (by rfl)).q ?_
  refine ahi (abg (o:=0) (i:=8) (k:=1) (us:=[.int .i64 ((((4+c.heap)+c.classes)+c.workers))]) (ws:=[.int .i64 c.workers,.int .i64 c.levels,.int .i64 c.classes,.int .i64 c.tasks,.int .i64 c.deque,.int .i64 c.heap,.int .i64 ((4+c.heap)),.int .i64 (((4+c.heap)+c.classes)),.int .i64 ((((4+c.heap)+c.classes)+c.workers)),.int .i64 0,.int .i64 0]) (.tmp aaf) (.tmp aap) aaR (rfl) (by kernel_rfl) rfl (by decide) rfl rfl (by simp) rfl) aae (fun _ =>aa3) (fun _ =>?_)
  refine aah (aad ?_)
  refine aag (aaa ?_)
  refine rtn (aan (k:=8) (o':=8) (.tmp aem) (by kernel_rfl) (by rfl)).q ?_
  refine rtn (aax (o:=0) (i:=8) (.tmp aaf) aaf (rfl) rfl (by kernel_rfl)) ?_
  refine rtn (aan (k:=0) (o':=0) (.tmp aeP) (by kernel_rfl) (by rfl)).q ?_
  refine rtn (aax (o:=0) (i:=0) (.tmp aaf) aaf (rfl) rfl (by kernel_rfl)) ?_
  refine rtn (aaM (.tmp aaC) (.tmp aaf) (w64 (by omega) (by omega))).q ?_
  refine rtn (aan (k:=9) (o':=9) (.tmp (aar aap)) (by kernel_rfl) (by rfl)).q ?_
  refine ahi (abg (o:=0) (i:=9) (k:=1) (us:=[.int .i64 (((((4+c.heap)+c.classes)+c.workers)+c.workers))]) (ws:=[.int .i64 c.workers,.int .i64 c.levels,.int .i64 c.classes,.int .i64 c.tasks,.int .i64 c.deque,.int .i64 c.heap,.int .i64 ((4+c.heap)),.int .i64 (((4+c.heap)+c.classes)),.int .i64 ((((4+c.heap)+c.classes)+c.workers)),.int .i64 (((((4+c.heap)+c.classes)+c.workers)+c.workers)),.int .i64 0]) (.tmp aaf) (.tmp aap) aaR (rfl) (by kernel_rfl) rfl (by decide) rfl rfl (by simp) rfl) aae (fun _ =>aa3) (fun _ =>?_)
  refine aah (aad ?_)
  refine aag (aaa ?_)
  refine rtn (aan (k:=9) (o':=9) (.tmp (aar aaC)) (by kernel_rfl) (by rfl)).q ?_
  refine rtn (aax (o:=0) (i:=9) (.tmp aaf) aaf (rfl) rfl (by kernel_rfl)) ?_
  refine rtn (aan (k:=0) (o':=0) (.tmp (aar abk)) (by kernel_rfl) (by rfl)).q ?_
  refine rtn (aax (o:=0) (i:=0) (.tmp aaf) aaf (rfl) rfl (by kernel_rfl)) ?_
  refine rtn (aan (k:=1) (o':=1) (.tmp (aar adz)) (by kernel_rfl) (by rfl)).q ?_
  refine rtn (aax (o:=0) (i:=1) (.tmp aaf) aaf (rfl) rfl (by kernel_rfl)) ?_
  refine rtn (ae4 (.tmp aaC) (.tmp aaf) (w64 (by omega) (by omega))).q ?_
  refine rtn (aan (k:=4) (o':=4) (.tmp (aar aff)) (by kernel_rfl) (by rfl)).q ?_
  refine rtn (aax (o:=0) (i:=4) (.tmp aaf) aaf (rfl) rfl (by kernel_rfl)) ?_
  refine rtn (aaM .const (.tmp aaf) (w64 (by omega) (by omega))).q ?_
  refine rtn (ae4 (.tmp aa1) (.tmp aaf) (w64 (by omega) (by omega))).q ?_
  refine rtn (aaM (.tmp aff) (.tmp aaf) (w64 (by omega) (by omega))).q ?_
  refine rtn (aan (k:=10) (o':=10) (.tmp (aar aew)) (by kernel_rfl) (by rfl)).q ?_
  refine ahi (abg (o:=0) (i:=10) (k:=1) (us:=[.int .i64 ((((((4+c.heap)+c.classes)+c.workers)+c.workers)+((c.workers*c.levels)*(2+c.deque))))]) (ws:=[.int .i64 c.workers,.int .i64 c.levels,.int .i64 c.classes,.int .i64 c.tasks,.int .i64 c.deque,.int .i64 c.heap,.int .i64 ((4+c.heap)),.int .i64 (((4+c.heap)+c.classes)),.int .i64 ((((4+c.heap)+c.classes)+c.workers)),.int .i64 (((((4+c.heap)+c.classes)+c.workers)+c.workers)),.int .i64 ((((((4+c.heap)+c.classes)+c.workers)+c.workers)+((c.workers*c.levels)*(2+c.deque))))]) (.tmp aaf) (.tmp aap) aaR (rfl) (by kernel_rfl) rfl (by decide) rfl rfl (by simp) rfl) aae (fun _ =>aa3) (fun _ =>?_)
  refine aah (aad ?_)
  refine aag (aaa ?_)
  refine rtn (aaB (o:=0) (i:=0) (k:=11) (us:=[.int .i64 c.workers,.int .i64 c.levels,.int .i64 c.classes,.int .i64 c.tasks,.int .i64 c.deque,.int .i64 c.heap,.int .i64 ((4+c.heap)),.int .i64 (((4+c.heap)+c.classes)),.int .i64 ((((4+c.heap)+c.classes)+c.workers)),.int .i64 (((((4+c.heap)+c.classes)+c.workers)+c.workers)),.int .i64 ((((((4+c.heap)+c.classes)+c.workers)+c.workers)+((c.workers*c.levels)*(2+c.deque))))]) (.tmp (aar adP)) aaf (rfl) (by kernel_rfl) rfl rfl) ?_
  refine ahi (abg (o:=0) (i:=0) (k:=11) (us:=[.int .i64 c.workers,.int .i64 c.levels,.int .i64 c.classes,.int .i64 c.tasks,.int .i64 c.deque,.int .i64 c.heap,.int .i64 ((4+c.heap)),.int .i64 (((4+c.heap)+c.classes)),.int .i64 ((((4+c.heap)+c.classes)+c.workers)),.int .i64 (((((4+c.heap)+c.classes)+c.workers)+c.workers)),.int .i64 ((((((4+c.heap)+c.classes)+c.workers)+c.workers)+((c.workers*c.levels)*(2+c.deque))))]) (ws:=[.int .i64 c.workers,.int .i64 c.levels,.int .i64 c.classes,.int .i64 c.tasks,.int .i64 c.deque,.int .i64 c.heap,.int .i64 ((4+c.heap)),.int .i64 (((4+c.heap)+c.classes)),.int .i64 ((((4+c.heap)+c.classes)+c.workers)),.int .i64 (((((4+c.heap)+c.classes)+c.workers)+c.workers)),.int .i64 ((((((4+c.heap)+c.classes)+c.workers)+c.workers)+((c.workers*c.levels)*(2+c.deque))))]) (.tmp (aar (aar aem))) (.tmp aaf) aqX (rfl) (by kernel_rfl) rfl (by decide) rfl rfl (by simp) rfl) aae (fun _ =>aa3) (fun _ =>?_)
  refine aa5 (aab .const).q aae (aaj (aa0 (aa0 ajn)) (by kernel_rfl)) ?_
  refine aah (aad (aaz ?_))
  exact aaN rfl (.cellA (m:=11) (ws:=[.int .i64 c.workers,.int .i64 c.levels,.int .i64 c.classes,.int .i64 c.tasks,.int .i64 c.deque,.int .i64 c.heap,.int .i64 ((4+c.heap)),.int .i64 (((4+c.heap)+c.classes)),.int .i64 ((((4+c.heap)+c.classes)+c.workers)),.int .i64 (((((4+c.heap)+c.classes)+c.workers)+c.workers)),.int .i64 ((((((4+c.heap)+c.classes)+c.workers)+c.workers)+((c.workers*c.levels)*(2+c.deque))))]) (aar (aar aem)) aap (by kernel_rfl) rfl rfl (.cons aaf .nil)) (by unfold lyL; rw [show abh c=aaY c+c.workers*c.levels*(2+c.deque) from rfl,← hdq]; rfl) (Ent.drop.trans (Ent.drop.trans Ent.drop))
set_option maxRecDepth 100000 in
theorem auB (c:Cfg) (l:CfgAt) (hv:abB c≠0) {B:Nat} {W:World} (hc:acR W B c l) (L:List aak):adV Tryz.prog 81 #[acM c l] B W L (.tuple #[.agg zyL.toArray,.int .i64 (abB c)]):=by
 refine aay Tryz.func81 rfl (m:=61) rfl (Nat.le_of_ble_eq_true rfl) (R:=[(0,acM c l)]) (by kernel_rfl) ?_
 refine aag (aaa ?_)
 refine rtm (abX (.tmp aaf) (us:=(cfL c l)) rfl) ?_
 rintro b1
 refine rtm (acd (v:=.agg zyL.toArray) (us:=zyL) (by kernel_rfl) rfl) ?_
 rintro b2
 refine rtn (aab .const).q ?_
 refine aah (aad ?_)
 refine aag (aag (aaa ?_))
 refine rtn (aaB (o:=0) (i:=0) (k:=11) (us:=(cfL c l)) (.tmp aaC) aap (rfl) (by kernel_rfl) rfl rfl) ?_
 refine rtn (aaw (by kernel_rfl) (.cons (.tmp aaf) .nil) (agR c l hc _)) ?_
 refine rtn (aab (.tmp aaf)).q ?_
 refine aah (aad ?_)
 refine aag (aaa ?_)
 refine rtn (aac (.tmp aaf)).q ?_
 refine rtn (agZ (.tmp aaf) .const).q ?_
 refine aah (aad ?_)
 refine abT (.tmp aaf) (fun h3 =>?_) (fun h3 =>?_)
 ·refine aag (aaa ?_)
  refine rtn (aeE (v:=.agg zyL.toArray) .nil (fun _ =>by kernel_rfl)).q ?_
  refine rtn (aac (.tmp aa1)).q ?_
  refine ahi (abg (o:=0) (i:=0) (k:=11) (us:=zyL) (ws:=zyL) (.tmp adK) (.tmp aap) aaR (rfl) (by kernel_rfl) rfl (by decide) rfl rfl (by simp) rfl) aae (fun _ =>aa3) (fun _ =>?_)
  refine aa5 (aab (.tmp aaf)).q aae (aaj ael (by kernel_rfl)) ?_
  refine aah (aad ?_)
  refine aaz (aao ?_)
  exact aaN rfl (.cellA (m:=11) (ws:=zyL) adK aaf (by kernel_rfl) rfl rfl (.cons aaf .nil)) (by rfl) (Ent.drop.trans Ent.drop)
 ·exact absurd hv h3
theorem atP {a:Int} (h0:0≤a) (h1:a≤18446744073709551615) (k:Nat) (hk:k≤63):IntKind.u64.wrap (BitVec.ofInt IntKind.u64.bits a &&& BitVec.ofInt IntKind.u64.bits ((2 ^ k-1:Nat):Int)).toNat=a % ((2 ^ k:Nat):Int):=by
 obtain ⟨m,rfl⟩:=Int.eq_ofNat_of_zero_le h0
 have hk2:(2:Nat) ^ k≤2 ^ 63:=Nat.pow_le_pow_right (by omega) hk
 have e:(BitVec.ofInt IntKind.u64.bits (m:Int) &&& BitVec.ofInt IntKind.u64.bits ((2 ^ k-1:Nat):Int)).toNat=m % 2 ^ k:=by
  rw [BitVec.toNat_and]
  simp only [IntKind.bits,BitVec.toNat_ofInt]
  rw [show ((m:Int) % ((2 ^ 64:Nat):Int)).toNat=m by omega,show (((2 ^ k-1:Nat):Int) % ((2 ^ 64:Nat):Int)).toNat=2 ^ k-1 by omega]
  exact Nat.and_two_pow_sub_one_eq_mod m k
 rw [e]
 have:m % 2 ^ k<2 ^ k:=Nat.mod_lt _ (Nat.two_pow_pos k)
 rw [avb (by omega) (by omega)]
 omega
theorem aEU {a b:Int} (h0:0≤a) (k:Nat) (hk:min b.toNat IntKind.u64.bits=k):a.fdiv (2 ^ min b.toNat IntKind.u64.bits)=a / ((2 ^ k:Nat):Int):=by
 rw [hk,Int.fdiv_eq_ediv_of_nonneg _ (by exact Int.pow_nonneg (by omega))]
 simp
theorem anO {a b N:Int} (h0:0≤a) (k:Nat) (hk:min b.toNat IntKind.u64.bits=k) (hN:((2 ^ k:Nat):Int)=N):a.fdiv (2 ^ min b.toNat IntKind.u64.bits)=a / N:=by
 rw [aEU h0 k hk,hN]
theorem aBM {k:Nat} (h:k<63):IntKind.u64.wrap (((2 ^ k:Nat):Int)*2)=((2 ^ (k+1):Nat):Int):=by
 have:(2:Nat) ^ (k+1)≤2 ^ 63:=Nat.pow_le_pow_right (by omega) (by omega)
 have e:(2:Nat) ^ (k+1)=2 ^ k*2:=Nat.pow_succ ..
 rw [avb (by omega) (by omega)]
 omega
theorem aEV {k:Nat} (h:k≤63):IntKind.u64.wrap (1*2 ^ min ((k:Int).toNat) IntKind.u64.bits)=((2 ^ k:Nat):Int):=by
 have h1:min ((k:Int).toNat) IntKind.u64.bits=k:=by
  show min ((k:Int).toNat) 64=k
  rw [Int.toNat_natCast]; exact Nat.min_eq_left (by omega)
 have h2:(2:Nat) ^ k≤2 ^ 63:=Nat.pow_le_pow_right (by omega) h
 rw [h1,Int.one_mul]
 have e:((2:Int) ^ k)=((2 ^ k:Nat):Int):=by simp
 rw [e]
 generalize 2 ^ k=q at *
 exact avb (by omega) (by omega)
theorem aqZ (d n:Int) (h:0<n):-n<d.tmod n∧d.tmod n<n:=by
 have hm2:=Int.tmod_lt_of_pos (-d) h
 rw [Int.neg_tmod] at hm2
 exact ⟨by omega,Int.tmod_lt_of_pos d h⟩
theorem aiJ {d n:Int} (h:n<1):acJ d n=0:=by unfold acJ; exact if_pos h
theorem ama {d n:Int} (h:¬ n<1) (h2:d.tmod n<0):acJ d n=d.tmod n+n:=by
 have hb:=aqZ d n (by omega)
 have hd:=Int.mul_tdiv_add_tmod d n
 unfold acJ; rw [if_neg h]
 exact aoU (q:=d.tdiv n-1) (by rw [Int.mul_sub]; omega) (by omega) (by omega)
theorem al9 {d n:Int} (h:¬ n<1) (h2:¬ d.tmod n<0):acJ d n=d.tmod n:=by
 have hb:=aqZ d n (by omega)
 have hd:=Int.mul_tdiv_add_tmod d n
 unfold acJ; rw [if_neg h]
 exact aoU (q:=d.tdiv n) (by omega) (by omega) (by omega)
set_option maxRecDepth 100000 in
theorem aqV (k:Int) (h0:0≤k) (h1:k≤18446744073709551615) (B:Nat) (W:World) (L:List aak):adV Tryz.prog 119 #[.int .u64 k] B W L (.tuple #[.int .i64 (k / 1099511627776),.int .i64 (k / 65536 % 16777216),.int .i64 (k % 65536)]):=by
 refine aay Tryz.func119 rfl (m:=15) rfl (Nat.le_of_ble_eq_true rfl) (R:=[(0,.int .u64 k)]) (by kernel_rfl) ?_
 refine aag (aaa ?_)
 refine rtn (aab .const).q ?_
 refine rtn (aab .const).q ?_
 refine rtn (aab .const).q ?_
 refine aah (aad ?_)
 refine aag (aaa ?_)
 refine rtn (aac (.tmp aa1)).q ?_
 refine rtn (air (.tmp aaf) .const (by omega) (anO (by omega) 40 rfl (by kernel_rfl:_=(1099511627776:Int)))).q ?_
 refine rtn (abv (.tmp aaf) Tryz.underlying38 Tryz.underlying3 (w64 (by omega) (by omega))).q ?_
 refine rtn (aac (.tmp adz)).q ?_
 refine rtn (air (.tmp aaf) .const (by omega) (anO (by omega) 16 rfl (by kernel_rfl:_=(65536:Int)))).q ?_
 refine rtn (awD (.tmp aaf) .const (atP (by omega) (by omega) 24 (by omega))).q ?_
 refine rtn (abv (.tmp aaf) Tryz.underlying38 Tryz.underlying3 (w64 (by omega) (by omega))).q ?_
 refine rtn (aac (.tmp acP)).q ?_
 refine rtn (awD (.tmp aaf) .const (atP (by omega) (by omega) 16 (by omega))).q ?_
 refine rtn (abv (.tmp aaf) Tryz.underlying38 Tryz.underlying3 (w64 (by omega) (by omega))).q ?_
 refine aa5 (aab (.tmp aeX)).q aae (aaj afH (by kernel_rfl)) ?_
 refine aa5 (aab (.tmp abk)).q aae (aaj afH (by kernel_rfl)) ?_
 refine aa5 (aab (.tmp aaC)).q aae (aaj afH (by kernel_rfl)) ?_
 refine aah (aad (aaz ?_))
 exact aaN rfl (.cons aaC (.cons aap (.cons aaf .nil))) (by rfl) Ent.refl
set_option maxRecDepth 100000 in
theorem ah0 (i:Nat) (hi:i≤63) (B:Nat) (W:World) (L:List aak):adV Tryz.prog 185 #[.int .i64 ((i:Int))] B W L (.int .u64 ((2 ^ i:Nat):Int)):=by
 refine aay Tryz.func185 rfl (m:=11) rfl (Nat.le_of_ble_eq_true rfl) (R:=[(0,.int .i64 ((i:Int)))]) (by kernel_rfl) ?_
 refine aag (aaa ?_)
 refine rtn (aab .const).q ?_
 refine aah (aad ?_)
 refine aag (aaa ?_)
 refine rtn (aab .const).q ?_
 refine aah (aad (aag ?_))
 refine aaU ?_
 refine aey (X:=Nat) (fun k =>i-k) (fun k =>k≤i) (fun k =>[(3,.int .u64 (((2 ^ k:Nat):Int))),(2,.int .u64 0),(0,.int .i64 (((i:Int)-(k:Int))))]) (fun k =>L) 0 (by omega) (.cons aaf (congrArg (Value.int .u64) (by first | rfl | omega | (simp; omega) | simp)) (.cons aap rfl (.cons aaC (congrArg (Value.int .i64) (by first | rfl | omega | (simp; omega) | simp)) .nil))) (Ent.refl) (fun k hi1 =>?_)
 refine aag (aag (aaa ?_))
 refine rtn (aac (.tmp aaC)).q ?_
 refine rtn (afI (.tmp aaf) .const).q ?_
 refine aah (aad ?_)
 refine abT (.tmp aaf) (fun h2 =>?_) (fun h2 =>?_)
 ·refine aaD ?_
  refine aad (aag ?_)
  refine aaU ?_
  refine aaa ?_
  refine rtn (aac (.tmp aaC)).q ?_
  refine rtn (ae4 (.tmp aaf) .const (aBM (by omega))).q ?_
  refine aa5 (aab (.tmp aaf)).q aae (aaj ajm (by kernel_rfl)) ?_
  refine aah ?_
  refine aa7 ?_
  refine aad (aaa ?_)
  refine rtn (aac (.tmp adz)).q ?_
  refine rtn (ae3 (.tmp aaf) .const (w64 (by omega) (by omega))).q ?_
  refine aa5 (aab (.tmp aaf)).q aae (aaj arF (by kernel_rfl)) ?_
  refine aah ?_
  exact abW (n:=11) ((k+1)) (by omega) (by omega) (.cons aa1 (congrArg (Value.int .u64) (by first | rfl | omega | (simp; omega) | simp)) (.cons adK rfl (.cons aaf (congrArg (Value.int .i64) (by first | rfl | omega | (simp; omega) | simp)) .nil))) (Ent.refl)
 ·refine aco ?_
  refine aaq ?_
  refine aaq ?_
  refine aaK ?_
  refine aad (aag (aaa ?_))
  refine rtn (aac (.tmp aaC)).q ?_
  refine aa5 (aab (.tmp aaf)).q aae (aaj ajm (by kernel_rfl)) ?_
  refine aah (aad (aaz ?_))
  exact aaN rfl (.cons aaf .nil) (by rw [show i=k by omega]; rfl) Ent.refl
set_option maxRecDepth 100000 in
theorem amt (k:Int) (h0:0≤k) (h1:k≤18446744073709551615) (B:Nat) (W:World) (L:List aak):adV Tryz.prog 130 #[.int .u64 k] B W L (.tuple #[.int .i64 (k / 1099511627776),.int .i64 (k / 65536 % 16777216),.int .i64 (k % 65536)]):=by
 refine aay Tryz.func130 rfl (m:=19) rfl (Nat.le_of_ble_eq_true rfl) (R:=[(0,.int .u64 k)]) (by kernel_rfl) ?_
 refine aag (aaa ?_)
 refine rtn (aab .const).q ?_
 refine rtn (aab .const).q ?_
 refine rtn (aab .const).q ?_
 refine aah (aad (aag ?_))
 refine ad4 (by kernel_rfl) (by kernel_rfl) ?_
 refine qtn (aac (.tmp aa1)).q ?_
 refine qtn (aaw (by kernel_rfl) (.cons .const .nil) (ah0 40 (by omega) B W _)) ?_
 refine qtn (awA (.tmp aap) (.tmp aaf) (by omega) (aAA (by omega) (by omega) (by omega))).q ?_
 refine qtn (abv (.tmp aaf) Tryz.underlying38 Tryz.underlying3 (w64 (by omega) (by omega))).q ?_
 refine qtn (aac (.tmp aeX)).q ?_
 refine qtn (aaw (by kernel_rfl) (.cons .const .nil) (ah0 16 (by omega) B W _)) ?_
 refine qtn (awA (.tmp aap) (.tmp aaf) (by omega) (aAA (by omega) (by omega) (by omega))).q ?_
 refine qtn (aaw (by kernel_rfl) (.cons .const .nil) (ah0 24 (by omega) B W _)) ?_
 refine qtn (akA (.tmp aap) (.tmp aaf) (by omega) (at7 (by omega))).q ?_
 refine qtn (abv (.tmp aaf) Tryz.underlying38 Tryz.underlying3 (w64 (by omega) (by omega))).q ?_
 refine qtn (aac (.tmp ad3)).q ?_
 refine qtn (aaw (by kernel_rfl) (.cons .const .nil) (ah0 16 (by omega) B W _)) ?_
 refine qtn (akA (.tmp aap) (.tmp aaf) (by omega) (at7 (by omega))).q ?_
 refine qtn (abv (.tmp aaf) Tryz.underlying38 Tryz.underlying3 (w64 (by omega) (by omega))).q ?_
 refine awi (aab (.tmp acP)).q aae (aaj aky (by kernel_rfl)) ?_
 refine awi (aab (.tmp acU)).q aae (aaj aky (by kernel_rfl)) ?_
 refine awi (aab (.tmp aaC)).q aae (aaj aky (by kernel_rfl)) ?_
 refine adI (aad (aaz ?_))
 exact aaN rfl (.cons aaC (.cons aap (.cons aaf .nil))) (by rfl) Ent.refl
set_option maxRecDepth 100000 in
theorem avx (a b:Int) (B:Nat) (W:World) (L:List aak):adV Tryz.prog 124 #[.int .u64 a,.int .u64 b] B W L (.int .i64 (ara a b)):=by
 refine aay Tryz.func124 rfl (m:=9) rfl (Nat.le_of_ble_eq_true rfl) (R:=[(0,.int .u64 a),(1,.int .u64 b)]) (by kernel_rfl) ?_
 refine aag (aaa ?_)
 refine rtn (aab .const).q ?_
 refine aah (aad ?_)
 refine aag (aaa ?_)
 refine rtn (aac (.tmp aap)).q ?_
 refine rtn (aac (.tmp aa1)).q ?_
 refine rtn (ae3 (.tmp aap) (.tmp aaf) rfl).q ?_
 refine rtn (abv (.tmp aaf) Tryz.underlying38 Tryz.underlying3 rfl).q ?_
 refine aa5 (aab (.tmp aaf)).q aae (aaj ajm (by kernel_rfl)) ?_
 refine aah (aad (aaz ?_))
 exact aaN rfl (.cons aaf .nil) (by rfl) Ent.refl
set_option maxRecDepth 100000 in
theorem apG (a b:Int) (B:Nat) (W:World) (L:List aak):adV Tryz.prog 69 #[.int .u64 a,.int .u64 b] B W L (.int .i64 (ara a b)):=by
 refine aay Tryz.func69 rfl (m:=9) rfl (Nat.le_of_ble_eq_true rfl) (R:=[(0,.int .u64 a),(1,.int .u64 b)]) (by kernel_rfl) ?_
 refine aag (aaa ?_)
 refine rtn (aab .const).q ?_
 refine aah (aad ?_)
 refine aag (aaa ?_)
 refine rtn (aac (.tmp aap)).q ?_
 refine rtn (aac (.tmp aa1)).q ?_
 refine rtn (ae3 (.tmp aap) (.tmp aaf) rfl).q ?_
 refine rtn (abv (.tmp aaf) Tryz.underlying38 Tryz.underlying3 rfl).q ?_
 refine aa5 (aab (.tmp aaf)).q aae (aaj ajm (by kernel_rfl)) ?_
 refine aah (aad (aaz ?_))
 exact aaN rfl (.cons aaf .nil) (by rfl) Ent.refl
set_option maxRecDepth 100000 in
theorem avQ (t d rg cap i:Int) (hr:0≤rg∧rg≤80000) (hc:1≤cap∧cap≤64) (hi:0≤i) (B:Nat) (W:World) (L:List aak):adV Tryz.prog 125 #[.agg #[.int .i64 t,.int .i64 d,.int .i64 rg,.int .i64 cap],.int .u64 i] B W L (.int .i64 (rg+i % cap)):=by
 have hm1:=Int.emod_nonneg i (show cap≠0 by omega)
 have hm2:=Int.emod_lt_of_pos i (show 0<cap by omega)
 refine aay Tryz.func125 rfl (m:=17) rfl (Nat.le_of_ble_eq_true rfl) (R:=[(0,.agg #[.int .i64 t,.int .i64 d,.int .i64 rg,.int .i64 cap]),(1,.int .u64 i)]) (by kernel_rfl) ?_
 refine aag (aaa ?_)
 refine rtm (abX (.tmp aaf) (us:=[.int .i64 t,.int .i64 d,.int .i64 rg,.int .i64 cap]) rfl) ?_
 rintro b1
 refine rtn (aab .const).q ?_
 refine aah (aad ?_)
 refine aag (aag (aaa ?_))
 refine rtn (aan (k:=3) (o':=3) (.tmp aap) (by kernel_rfl) (by rfl)).q ?_
 refine rtn (aax (o:=0) (i:=3) (.tmp aaf) aaf (rfl) rfl (by kernel_rfl)) ?_
 refine rtn (abE (.tmp aaf) .const).q ?_
 refine aah (aad ?_)
 refine abT (.tmp aaf) (fun h2 =>?_) (fun h2 =>?_)
 ·exact absurd h2 (by omega)
 ·refine aaD ?_
  refine aad (aag ?_)
  refine ad4 (by kernel_rfl) (by kernel_rfl) ?_
  refine qtn (aan (k:=2) (o':=2) (.tmp abk) (by kernel_rfl) (by rfl)).q ?_
  refine qtn (aax (o:=0) (i:=2) (.tmp aaf) aaf (rfl) rfl (by kernel_rfl)) ?_
  refine qtn (aac (.tmp adK)).q ?_
  refine qtn (aan (k:=3) (o':=3) (.tmp aeX) (by kernel_rfl) (by rfl)).q ?_
  refine qtn (aax (o:=0) (i:=3) (.tmp aaf) aaf (rfl) rfl (by kernel_rfl)) ?_
  refine qtn (abv (.tmp aaf) Tryz.underlying3 Tryz.underlying38 (avb (by omega) (by omega))).q ?_
  refine qtn (akA (.tmp aa1) (.tmp aaf) (by omega) (at7 (by omega))).q ?_
  refine qtn (abv (.tmp aaf) Tryz.underlying38 Tryz.underlying3 (w64 (by omega) (by omega))).q ?_
  refine qtn (aaM (.tmp adz) (.tmp aaf) (w64 (by omega) (by omega))).q ?_
  refine awi (aab (.tmp aaf)).q aae (aaj afH (by kernel_rfl)) ?_
  refine adI (aad (aaz ?_))
  exact aaN rfl (.cons aaf .nil) (by rfl) Ent.drop
set_option maxRecDepth 100000 in
theorem apH (t d rg cap i:Int) (hr:0≤rg∧rg≤80000) (hc:1≤cap∧cap≤64) (hi:0≤i) (B:Nat) (W:World) (L:List aak):adV Tryz.prog 70 #[.agg #[.int .i64 t,.int .i64 d,.int .i64 rg,.int .i64 cap],.int .u64 i] B W L (.int .i64 (rg+i % cap)):=by
 have hm1:=Int.emod_nonneg i (show cap≠0 by omega)
 have hm2:=Int.emod_lt_of_pos i (show 0<cap by omega)
 refine aay Tryz.func70 rfl (m:=17) rfl (Nat.le_of_ble_eq_true rfl) (R:=[(0,.agg #[.int .i64 t,.int .i64 d,.int .i64 rg,.int .i64 cap]),(1,.int .u64 i)]) (by kernel_rfl) ?_
 refine aag (aaa ?_)
 refine rtm (abX (.tmp aaf) (us:=[.int .i64 t,.int .i64 d,.int .i64 rg,.int .i64 cap]) rfl) ?_
 rintro b1
 refine rtn (aab .const).q ?_
 refine aah (aad ?_)
 refine aag (aag (aaa ?_))
 refine rtn (aan (k:=3) (o':=3) (.tmp aap) (by kernel_rfl) (by rfl)).q ?_
 refine rtn (aax (o:=0) (i:=3) (.tmp aaf) aaf (rfl) rfl (by kernel_rfl)) ?_
 refine rtn (abE (.tmp aaf) .const).q ?_
 refine aah (aad ?_)
 refine abT (.tmp aaf) (fun h2 =>?_) (fun h2 =>?_)
 ·exact absurd h2 (by omega)
 ·refine aaD ?_
  refine aad (aag ?_)
  refine ad4 (by kernel_rfl) (by kernel_rfl) ?_
  refine qtn (aan (k:=2) (o':=2) (.tmp abk) (by kernel_rfl) (by rfl)).q ?_
  refine qtn (aax (o:=0) (i:=2) (.tmp aaf) aaf (rfl) rfl (by kernel_rfl)) ?_
  refine qtn (aac (.tmp adK)).q ?_
  refine qtn (aan (k:=3) (o':=3) (.tmp aeX) (by kernel_rfl) (by rfl)).q ?_
  refine qtn (aax (o:=0) (i:=3) (.tmp aaf) aaf (rfl) rfl (by kernel_rfl)) ?_
  refine qtn (abv (.tmp aaf) Tryz.underlying3 Tryz.underlying38 (avb (by omega) (by omega))).q ?_
  refine qtn (akA (.tmp aa1) (.tmp aaf) (by omega) (at7 (by omega))).q ?_
  refine qtn (abv (.tmp aaf) Tryz.underlying38 Tryz.underlying3 (w64 (by omega) (by omega))).q ?_
  refine qtn (aaM (.tmp adz) (.tmp aaf) (w64 (by omega) (by omega))).q ?_
  refine awi (aab (.tmp aaf)).q aae (aaj afH (by kernel_rfl)) ?_
  refine adI (aad (aaz ?_))
  exact aaN rfl (.cons aaf .nil) (by rfl) Ent.drop
set_option maxRecDepth 100000 in
theorem azn (d n:Int) (hn:n≤9223372036854775807) (B:Nat) (W:World) (L:List aak):adV Tryz.prog 96 #[.int .i64 d,.int .i64 n] B W L (.int .i64 (acJ d n)):=by
 refine aay Tryz.func96 rfl (m:=17) rfl (Nat.le_of_ble_eq_true rfl) (R:=[(0,.int .i64 d),(1,.int .i64 n)]) (by kernel_rfl) ?_
 refine aag (aaa ?_)
 refine rtn (aab .const).q ?_
 refine aah (aad ?_)
 refine aag (aag (aaa ?_))
 refine rtn (aac (.tmp aaC)).q ?_
 refine rtn (abE (.tmp aaf) .const).q ?_
 refine aah (aad ?_)
 refine abT (.tmp aaf) (fun h1 =>?_) (fun h1 =>?_)
 ·refine aag (aaa ?_)
  refine aa5 (aab .const).q aae (aaj awu (by kernel_rfl)) ?_
  refine aah (aad ?_)
  refine aaz (aao ?_)
  exact aaN rfl (.cons aaf .nil) (by exact congrArg (Value.int .i64) (by first | exact (aiJ (by omega)).symm | exact (ama (by omega) (by omega)).symm | exact (al9 (by omega) (by omega)).symm)) Ent.refl
 ·obtain ⟨m1,m2⟩:=aqZ d n (by omega)
  refine aaD ?_
  refine aad (aag (aaa ?_))
  refine rtn (aac (.tmp aa1)).q ?_
  refine rtn (aac (.tmp acU)).q ?_
  refine rtn (akA (.tmp aap) (.tmp aaf) (by omega) rfl).q ?_
  refine rtn (aab (.tmp aaf)).q ?_
  refine aah (aad ?_)
  refine aag (aag (aaa ?_))
  refine rtn (aac (.tmp aaf)).q ?_
  refine rtn (abE (.tmp aaf) .const).q ?_
  refine aah (aad ?_)
  refine abT (.tmp aaf) (fun h2 =>?_) (fun h2 =>?_)
  ·refine aaa ?_
   refine rtn (aac (.tmp aaC)).q ?_
   refine rtn (aac (.tmp acT)).q ?_
   refine rtn (aaM (.tmp aap) (.tmp aaf) (w64 (by omega) (by omega))).q ?_
   refine aa5 (aab (.tmp aaf)).q aae (aaj arG (by kernel_rfl)) ?_
   refine aah (aad ?_)
   refine aag (aaa ?_)
   refine rtn (aac (.tmp aaf)).q ?_
   refine aa5 (aab (.tmp aaf)).q aae (aaj afH (by kernel_rfl)) ?_
   refine aah (aad (aaz ?_))
   exact aaN rfl (.cons aaf .nil) (by exact congrArg (Value.int .i64) (by first | exact (aiJ (by omega)).symm | exact (ama (by omega) (by omega)).symm | exact (al9 (by omega) (by omega)).symm)) Ent.refl
  ·refine aaD ?_
   refine aad (aag (aaa ?_))
   refine rtn (aac (.tmp aaC)).q ?_
   refine aa5 (aab (.tmp aaf)).q aae (aaj auy (by kernel_rfl)) ?_
   refine aah (aad (aaz ?_))
   exact aaN rfl (.cons aaf .nil) (by exact congrArg (Value.int .i64) (by first | exact (aiJ (by omega)).symm | exact (ama (by omega) (by omega)).symm | exact (al9 (by omega) (by omega)).symm)) Ent.refl
def bl (m:Nat):Nat:=if m=0 then 0 else m.log2+1
theorem aEp {m k:Nat} (h:2 ^ k≤m):bl (m / 2 ^ k)+k=bl m:=by
 have hp:=Nat.two_pow_pos k
 have h0:m≠0:=by omega
 have h1:m / 2 ^ k≠0:=by have:=Nat.div_pos h hp; omega
 unfold bl
 rw [if_neg h0,if_neg h1]
 have a1:=Nat.log2_self_le h1
 have a2:=Nat.lt_log2_self (n:=m / 2 ^ k)
 have e:m.log2=(m / 2 ^ k).log2+k:=by
  refine (Nat.log2_eq_iff h0).2 ⟨?_,?_⟩
  ·rw [Nat.pow_add]; exact Nat.le_trans (Nat.mul_le_mul_right _ a1) (Nat.div_mul_le_self m _)
  ·rw [show (m / 2 ^ k).log2+k+1=(m / 2 ^ k).log2+1+k by omega,Nat.pow_add]
   exact (Nat.div_lt_iff_lt_mul hp).1 a2
 omega
theorem aEo (k:Nat):bl (2 ^ k)=k+1:=by
 unfold bl
 rw [if_neg (by have:=Nat.two_pow_pos k; omega),Nat.log2_two_pow]
def akR (x:Int):Int:=(bl x.toNat:Int)
theorem azw {x:Int} (k:Nat) (h0:0≤x) (h:((2 ^ k:Nat):Int)≤x):akR (x / ((2 ^ k:Nat):Int))+k=akR x:=by
 obtain ⟨m,rfl⟩:=Int.eq_ofNat_of_zero_le h0
 have:=aEp (m:=m) (k:=k) (by omega)
 unfold akR
 rw [show (m:Int) / ((2 ^ k:Nat):Int)=((m / 2 ^ k:Nat):Int) by simp]
 simp only [Int.toNat_natCast]; omega
theorem adf {x N:Int} (k:Nat) (hN:((2 ^ k:Nat):Int)=N) (h0:0≤x) (h:N≤x):akR (x / N)+k=akR x:=by subst hN; exact azw k h0 h
def aDc (s:ByteArray):Bool:=(List.range 256).all fun i =>s.data[i]?.map UInt8.toNat == some (bl i)
section
variable {P:Program} {n B:Nat} {W:World} {R:abn} {L:List aak} {y:Operand} {d:Option Tmp} {ty:TypeId} {ps:String} {af:Array Edge} {g:Option (Nat×Bool)} {T:TypeId}
theorem adr {k:IntKind} {s:ByteArray} {j:Int} (hy:EvalR R y (.int k j)) (h0:0≤j) (h1:j≤255) (hT:P.underlying T=some .string) (hs:aDc s=true) :
  OP P n ⟨d,.index T (.const (.string s)) y,ty,ps,af,g⟩ R (.int .u8 (akR j)):=fun a w st =>by
 unfold aDc at hs
 rw [List.all_eq_true] at hs
 have h2:=hs j.toNat (List.mem_range.2 (by omega))
 simp only [beq_iff_eq,Option.map_eq_some_iff] at h2
 obtain ⟨b,hb,hb2⟩:=h2
 have hlt:j.toNat<s.size:=(Array.getElem?_eq_some_iff.1 hb).1
 have hg:s[j.toNat]?=some b:=by
  rw [getElem?_pos s j.toNat hlt]
  have:=(Array.getElem?_eq_some_iff.1 hb).2
  exact congrArg some this
 have e0:a.eval (.const (.string s))=.string s:=rfl
 simp only [execOp,hy.eval st,e0]
 unfold Instr.index
 rw [aai (a:=Value.int .u8 (akR j)) (w':=w)]
 ·rfl
 ·rw [aai (a:=(k,j)) (w':=w) rfl,aai (abZ hT)]
  simp only [h0,if_true,hg]
  rw [hb2]
  rfl
end
theorem akC {x:Int} (h:x≤255):0≤akR x∧akR x≤8:=by
 unfold akR
 have:bl x.toNat≤8:=by
  unfold bl
  split
  ·omega
  ·have:=(Nat.log2_lt (n:=x.toNat) (k:=8) (by assumption)).2 (by omega)
   omega
 omega
set_option maxRecDepth 100000 in
theorem anp (x:Int) (h0:0≤x) (h1:x≤18446744073709551615) (B:Nat) (W:World) (L:List aak):adV Tryz.prog 209 #[.int .u64 x] B W L (.int .i64 (akR x)):=by
 refine aay Tryz.func209 rfl (m:=25) rfl (Nat.le_of_ble_eq_true rfl) (R:=[(0,.int .u64 x)]) (by kernel_rfl) ?_
 refine aag (aaa ?_)
 refine rtn (aab .const).q ?_
 refine aah (aad ?_)
 refine aag (aag (aaa ?_))
 refine rtn (aac (.tmp aap)).q ?_
 refine rtn (acr (.tmp aaf) .const).q ?_
 refine aah (aad ?_)
 refine abT (.tmp aaf) (fun h1 =>?_) (fun h1 =>?_)
 ·refine aag (aaa ?_)
  refine rtn (aac (.tmp aa1)).q ?_
  refine rtn (air (.tmp aaf) .const (by omega) (anO (by omega) 32 rfl (by kernel_rfl:_=(4294967296:Int)))).q ?_
  refine aa5 (aab (.tmp aaf)).q aae (aaj arG (by kernel_rfl)) ?_
  refine aah (aad (aaa ?_))
  refine aa5 (aab .const).q aae (aaj arG (by kernel_rfl)) ?_
  refine aah (aad ?_)
  refine aag (aag (aaa ?_))
  refine rtn (aac (.tmp aap)).q ?_
  refine rtn (acr (.tmp aaf) .const).q ?_
  refine aah (aad ?_)
  refine abT (.tmp aaf) (fun h2 =>?_) (fun h2 =>?_)
  ·refine aag (aaa ?_)
   refine rtn (aac (.tmp aa1)).q ?_
   refine rtn (air (.tmp aaf) .const (by omega) (anO (by omega) 16 rfl (by kernel_rfl:_=(65536:Int)))).q ?_
   refine aa5 (aab (.tmp aaf)).q aae (aaj arG (by kernel_rfl)) ?_
   refine aah (aad (aaa ?_))
   refine rtn (aac (.tmp acU)).q ?_
   refine rtn (aaM (.tmp aaf) .const (w64 (by omega) (by omega))).q ?_
   refine aa5 (aab (.tmp aaf)).q aae (aaj ael (by kernel_rfl)) ?_
   refine aah (aad ?_)
   refine aag (aag (aaa ?_))
   refine rtn (aac (.tmp aa1)).q ?_
   refine rtn (acr (.tmp aaf) .const).q ?_
   refine aah (aad ?_)
   refine abT (.tmp aaf) (fun h3 =>?_) (fun h3 =>?_)
   ·refine aag (aaa ?_)
    refine rtn (aac (.tmp acU)).q ?_
    refine rtn (air (.tmp aaf) .const (by omega) (anO (by omega) 8 rfl (by kernel_rfl:_=(256:Int)))).q ?_
    refine aa5 (aab (.tmp aaf)).q aae (aaj ael (by kernel_rfl)) ?_
    refine aah (aad (aaa ?_))
    refine rtn (aac (.tmp acU)).q ?_
    refine rtn (aaM (.tmp aaf) .const (w64 (by omega) (by omega))).q ?_
    refine aa5 (aab (.tmp aaf)).q aae (aaj ael (by kernel_rfl)) ?_
    refine aah (aad ?_)
    refine aag (aaa ?_)
    refine rtn (aac (.tmp aaf)).q ?_
    refine rtn (aac (.tmp abk)).q ?_
    refine rtn (abv (.tmp aaf) Tryz.underlying38 Tryz.underlying5 (wu8 (by omega) (by omega))).q ?_
    refine rtn (adr (.tmp aaf) (by omega) (by omega) Tryz.underlying9 (by kernel_rfl)).q ?_
    have hln:=akC (x:=((((x / 4294967296) / 65536) / 256))) (by omega)
    refine rtn (abv (.tmp aaf) Tryz.underlying5 Tryz.underlying3 (w64 (by omega) (by omega))).q ?_
    refine rtn (aaM (.tmp abk) (.tmp aaf) (w64 (by omega) (by omega))).q ?_
    refine aa5 (aab (.tmp aaf)).q aae (aaj aom (by kernel_rfl)) ?_
    refine aah (aad (aaz ?_))
    exact aaN rfl (.cons aaf .nil) (by simp only [abN]; refine congrArg (Value.int .i64) ?_; have e0:=adf (x:=x) (N:=4294967296) 32 (by kernel_rfl) (by omega) (by omega); have e1:=adf (x:=(x / 4294967296)) (N:=65536) 16 (by kernel_rfl) (by omega) (by omega); have e2:=adf (x:=((x / 4294967296) / 65536)) (N:=256) 8 (by kernel_rfl) (by omega) (by omega); omega) Ent.refl
   ·refine aaD ?_
    refine aad (aag (aaa ?_))
    refine rtn (aac (.tmp aaC)).q ?_
    refine rtn (aac (.tmp adz)).q ?_
    refine rtn (abv (.tmp aaf) Tryz.underlying38 Tryz.underlying5 (wu8 (by omega) (by omega))).q ?_
    refine rtn (adr (.tmp aaf) (by omega) (by omega) Tryz.underlying9 (by kernel_rfl)).q ?_
    have hln:=akC (x:=(((x / 4294967296) / 65536))) (by omega)
    refine rtn (abv (.tmp aaf) Tryz.underlying5 Tryz.underlying3 (w64 (by omega) (by omega))).q ?_
    refine rtn (aaM (.tmp abk) (.tmp aaf) (w64 (by omega) (by omega))).q ?_
    refine aa5 (aab (.tmp aaf)).q aae (aaj arF (by kernel_rfl)) ?_
    refine aah (aad (aaz ?_))
    exact aaN rfl (.cons aaf .nil) (by simp only [abN]; refine congrArg (Value.int .i64) ?_; have e0:=adf (x:=x) (N:=4294967296) 32 (by kernel_rfl) (by omega) (by omega); have e1:=adf (x:=(x / 4294967296)) (N:=65536) 16 (by kernel_rfl) (by omega) (by omega); omega) Ent.refl
  ·refine aaD ?_
   refine aad (aag ?_)
   refine aag (aaa ?_)
   refine rtn (aac (.tmp aa1)).q ?_
   refine rtn (acr (.tmp aaf) .const).q ?_
   refine aah (aad ?_)
   refine abT (.tmp aaf) (fun h4 =>?_) (fun h4 =>?_)
   ·refine aag (aaa ?_)
    refine rtn (aac (.tmp acU)).q ?_
    refine rtn (air (.tmp aaf) .const (by omega) (anO (by omega) 8 rfl (by kernel_rfl:_=(256:Int)))).q ?_
    refine aa5 (aab (.tmp aaf)).q aae (aaj ael (by kernel_rfl)) ?_
    refine aah (aad (aaa ?_))
    refine rtn (aac (.tmp aeX)).q ?_
    refine rtn (aaM (.tmp aaf) .const (w64 (by omega) (by omega))).q ?_
    refine aa5 (aab (.tmp aaf)).q aae (aaj auy (by kernel_rfl)) ?_
    refine aah (aad ?_)
    refine aag (aaa ?_)
    refine rtn (aac (.tmp aaf)).q ?_
    refine rtn (aac (.tmp abk)).q ?_
    refine rtn (abv (.tmp aaf) Tryz.underlying38 Tryz.underlying5 (wu8 (by omega) (by omega))).q ?_
    refine rtn (adr (.tmp aaf) (by omega) (by omega) Tryz.underlying9 (by kernel_rfl)).q ?_
    have hln:=akC (x:=(((x / 4294967296) / 256))) (by omega)
    refine rtn (abv (.tmp aaf) Tryz.underlying5 Tryz.underlying3 (w64 (by omega) (by omega))).q ?_
    refine rtn (aaM (.tmp abk) (.tmp aaf) (w64 (by omega) (by omega))).q ?_
    refine aa5 (aab (.tmp aaf)).q aae (aaj aom (by kernel_rfl)) ?_
    refine aah (aad (aaz ?_))
    exact aaN rfl (.cons aaf .nil) (by simp only [abN]; refine congrArg (Value.int .i64) ?_; have e0:=adf (x:=x) (N:=4294967296) 32 (by kernel_rfl) (by omega) (by omega); have e1:=adf (x:=(x / 4294967296)) (N:=256) 8 (by kernel_rfl) (by omega) (by omega); omega) Ent.refl
   ·refine aaD ?_
    refine aad (aag (aaa ?_))
    refine rtn (aac (.tmp abk)).q ?_
    refine rtn (aac (.tmp adz)).q ?_
    refine rtn (abv (.tmp aaf) Tryz.underlying38 Tryz.underlying5 (wu8 (by omega) (by omega))).q ?_
    refine rtn (adr (.tmp aaf) (by omega) (by omega) Tryz.underlying9 (by kernel_rfl)).q ?_
    have hln:=akC (x:=((x / 4294967296))) (by omega)
    refine rtn (abv (.tmp aaf) Tryz.underlying5 Tryz.underlying3 (w64 (by omega) (by omega))).q ?_
    refine rtn (aaM (.tmp abk) (.tmp aaf) (w64 (by omega) (by omega))).q ?_
    refine aa5 (aab (.tmp aaf)).q aae (aaj akz (by kernel_rfl)) ?_
    refine aah (aad (aaz ?_))
    exact aaN rfl (.cons aaf .nil) (by simp only [abN]; refine congrArg (Value.int .i64) ?_; have e0:=adf (x:=x) (N:=4294967296) 32 (by kernel_rfl) (by omega) (by omega); omega) Ent.refl
 ·refine aaD ?_
  refine aad (aag ?_)
  refine aag (aaa ?_)
  refine rtn (aac (.tmp aa1)).q ?_
  refine rtn (acr (.tmp aaf) .const).q ?_
  refine aah (aad ?_)
  refine abT (.tmp aaf) (fun h5 =>?_) (fun h5 =>?_)
  ·refine aag (aaa ?_)
   refine rtn (aac (.tmp acU)).q ?_
   refine rtn (air (.tmp aaf) .const (by omega) (anO (by omega) 16 rfl (by kernel_rfl:_=(65536:Int)))).q ?_
   refine aa5 (aab (.tmp aaf)).q aae (aaj ael (by kernel_rfl)) ?_
   refine aah (aad (aaa ?_))
   refine rtn (aac (.tmp aeX)).q ?_
   refine rtn (aaM (.tmp aaf) .const (w64 (by omega) (by omega))).q ?_
   refine aa5 (aab (.tmp aaf)).q aae (aaj auy (by kernel_rfl)) ?_
   refine aah (aad ?_)
   refine aag (aag (aaa ?_))
   refine rtn (aac (.tmp aa1)).q ?_
   refine rtn (acr (.tmp aaf) .const).q ?_
   refine aah (aad ?_)
   refine abT (.tmp aaf) (fun h6 =>?_) (fun h6 =>?_)
   ·refine aag (aaa ?_)
    refine rtn (aac (.tmp acU)).q ?_
    refine rtn (air (.tmp aaf) .const (by omega) (anO (by omega) 8 rfl (by kernel_rfl:_=(256:Int)))).q ?_
    refine aa5 (aab (.tmp aaf)).q aae (aaj ael (by kernel_rfl)) ?_
    refine aah (aad (aaa ?_))
    refine rtn (aac (.tmp acU)).q ?_
    refine rtn (aaM (.tmp aaf) .const (w64 (by omega) (by omega))).q ?_
    refine aa5 (aab (.tmp aaf)).q aae (aaj ael (by kernel_rfl)) ?_
    refine aah (aad ?_)
    refine aag (aaa ?_)
    refine rtn (aac (.tmp aaf)).q ?_
    refine rtn (aac (.tmp abk)).q ?_
    refine rtn (abv (.tmp aaf) Tryz.underlying38 Tryz.underlying5 (wu8 (by omega) (by omega))).q ?_
    refine rtn (adr (.tmp aaf) (by omega) (by omega) Tryz.underlying9 (by kernel_rfl)).q ?_
    have hln:=akC (x:=(((x / 65536) / 256))) (by omega)
    refine rtn (abv (.tmp aaf) Tryz.underlying5 Tryz.underlying3 (w64 (by omega) (by omega))).q ?_
    refine rtn (aaM (.tmp abk) (.tmp aaf) (w64 (by omega) (by omega))).q ?_
    refine aa5 (aab (.tmp aaf)).q aae (aaj aom (by kernel_rfl)) ?_
    refine aah (aad (aaz ?_))
    exact aaN rfl (.cons aaf .nil) (by simp only [abN]; refine congrArg (Value.int .i64) ?_; have e0:=adf (x:=x) (N:=65536) 16 (by kernel_rfl) (by omega) (by omega); have e1:=adf (x:=(x / 65536)) (N:=256) 8 (by kernel_rfl) (by omega) (by omega); omega) Ent.refl
   ·refine aaD ?_
    refine aad (aag (aaa ?_))
    refine rtn (aac (.tmp aaC)).q ?_
    refine rtn (aac (.tmp adz)).q ?_
    refine rtn (abv (.tmp aaf) Tryz.underlying38 Tryz.underlying5 (wu8 (by omega) (by omega))).q ?_
    refine rtn (adr (.tmp aaf) (by omega) (by omega) Tryz.underlying9 (by kernel_rfl)).q ?_
    have hln:=akC (x:=((x / 65536))) (by omega)
    refine rtn (abv (.tmp aaf) Tryz.underlying5 Tryz.underlying3 (w64 (by omega) (by omega))).q ?_
    refine rtn (aaM (.tmp abk) (.tmp aaf) (w64 (by omega) (by omega))).q ?_
    refine aa5 (aab (.tmp aaf)).q aae (aaj arF (by kernel_rfl)) ?_
    refine aah (aad (aaz ?_))
    exact aaN rfl (.cons aaf .nil) (by simp only [abN]; refine congrArg (Value.int .i64) ?_; have e0:=adf (x:=x) (N:=65536) 16 (by kernel_rfl) (by omega) (by omega); omega) Ent.refl
  ·refine aaD ?_
   refine aad (aag ?_)
   refine aag (aaa ?_)
   refine rtn (aac (.tmp acU)).q ?_
   refine rtn (acr (.tmp aaf) .const).q ?_
   refine aah (aad ?_)
   refine abT (.tmp aaf) (fun h7 =>?_) (fun h7 =>?_)
   ·refine aag (aaa ?_)
    refine rtn (aac (.tmp aeX)).q ?_
    refine rtn (air (.tmp aaf) .const (by omega) (anO (by omega) 8 rfl (by kernel_rfl:_=(256:Int)))).q ?_
    refine aa5 (aab (.tmp aaf)).q aae (aaj auy (by kernel_rfl)) ?_
    refine aah (aad (aaa ?_))
    refine rtn (aac (.tmp aff)).q ?_
    refine rtn (aaM (.tmp aaf) .const (w64 (by omega) (by omega))).q ?_
    refine aa5 (aab (.tmp aaf)).q aae (aaj awv (by kernel_rfl)) ?_
    refine aah (aad ?_)
    refine aag (aaa ?_)
    refine rtn (aac (.tmp aaf)).q ?_
    refine rtn (aac (.tmp abk)).q ?_
    refine rtn (abv (.tmp aaf) Tryz.underlying38 Tryz.underlying5 (wu8 (by omega) (by omega))).q ?_
    refine rtn (adr (.tmp aaf) (by omega) (by omega) Tryz.underlying9 (by kernel_rfl)).q ?_
    have hln:=akC (x:=((x / 256))) (by omega)
    refine rtn (abv (.tmp aaf) Tryz.underlying5 Tryz.underlying3 (w64 (by omega) (by omega))).q ?_
    refine rtn (aaM (.tmp abk) (.tmp aaf) (w64 (by omega) (by omega))).q ?_
    refine aa5 (aab (.tmp aaf)).q aae (aaj aom (by kernel_rfl)) ?_
    refine aah (aad (aaz ?_))
    exact aaN rfl (.cons aaf .nil) (by simp only [abN]; refine congrArg (Value.int .i64) ?_; have e0:=adf (x:=x) (N:=256) 8 (by kernel_rfl) (by omega) (by omega); omega) Ent.refl
   ·refine aaD ?_
    refine aad (aag (aaa ?_))
    refine rtn (aac (.tmp adz)).q ?_
    refine rtn (aac (.tmp adK)).q ?_
    refine rtn (abv (.tmp aaf) Tryz.underlying38 Tryz.underlying5 (wu8 (by omega) (by omega))).q ?_
    refine rtn (adr (.tmp aaf) (by omega) (by omega) Tryz.underlying9 (by kernel_rfl)).q ?_
    have hln:=akC (x:=x) (by omega)
    refine rtn (abv (.tmp aaf) Tryz.underlying5 Tryz.underlying3 (w64 (by omega) (by omega))).q ?_
    refine rtn (aaM (.tmp abk) (.tmp aaf) (w64 (by omega) (by omega))).q ?_
    refine aa5 (aab (.tmp aaf)).q aae (aaj afH (by kernel_rfl)) ?_
    refine aah (aad (aaz ?_))
    exact aaN rfl (.cons aaf .nil) (by simp only [abN]; refine congrArg (Value.int .i64) ?_; omega) Ent.refl
theorem azu {x:Int} (h1:x≤18446744073709551615):0≤akR x∧akR x≤64:=by
 unfold akR
 have:bl x.toNat≤64:=by
  unfold bl
  split
  ·omega
  ·have:=(Nat.log2_lt (n:=x.toNat) (k:=64) (by assumption)).2 (by omega)
   omega
 omega
set_option maxRecDepth 100000 in
theorem axb (x:Int) (h0:0≤x) (h1:x≤18446744073709551615) (B:Nat) (W:World) (L:List aak):adV Tryz.prog 181 #[.int .u64 x] B W L (.int .i64 (akR x-1)):=by
 have hl:=azu h1
 refine aay Tryz.func181 rfl (m:=6) rfl (Nat.le_of_ble_eq_true rfl) (R:=[(0,.int .u64 x)]) (by kernel_rfl) ?_
 refine aag (aaa ?_)
 refine rtn (aab .const).q ?_
 refine aah (aad ?_)
 refine aag (aaa ?_)
 refine rtn (aac (.tmp aap)).q ?_
 refine rtn (aaw (by kernel_rfl) (.cons (.tmp aaf) .nil) (anp _ (by omega) (by omega) B W _)) ?_
 refine rtn (ae3 (.tmp aaf) .const (w64 (by omega) (by omega))).q ?_
 refine aa5 (aab (.tmp aaf)).q aae (aaj auz (by kernel_rfl)) ?_
 refine aah (aad (aaz ?_))
 exact aaN rfl (.cons aaf .nil) (by rfl) Ent.refl
set_option maxRecDepth 100000 in
theorem aAc (k:Nat) (hk:k≤63) (B:Nat) (W:World) (L:List aak):adV Tryz.prog 121 #[.int .i64 ((k:Int))] B W L (.int .u64 ((2 ^ k:Nat):Int)):=by
 refine aay Tryz.func121 rfl (m:=12) rfl (Nat.le_of_ble_eq_true rfl) (R:=[(0,.int .i64 ((k:Int)))]) (by kernel_rfl) ?_
 refine aag (aaa ?_)
 refine rtn (aab .const).q ?_
 refine aah (aad ?_)
 refine aag (aag (aaa ?_))
 refine rtn (aac (.tmp aap)).q ?_
 refine rtn (abE (.tmp aaf) .const).q ?_
 refine rtn (aac (.tmp aaf)).q ?_
 refine abm aaR aaR (fun h1 =>?_) (fun h1 =>?_)
 ·exact absurd h1 (by omega)
 ·refine rts (aac (.tmp abk)).q aaf ?_
  refine rts (afI (.tmp aaf) .const).q aap ?_
  refine rtn (aat (b:=false) (.tmp aaC) (.tmp aaf)).q ?_
  refine aah (aad ?_)
  refine abT (.tmp aaf) (fun h2 =>?_) (fun h2 =>?_)
  ·exact absurd h2 (by omega)
  ·refine aaD ?_
   refine aad (aag (aaa ?_))
   refine rtn (aac (.tmp aeX)).q ?_
   refine rtn (abv (.tmp aaf) Tryz.underlying3 Tryz.underlying235 (avb (by omega) (by omega))).q ?_
   refine rtn (aAC .const (.tmp aaf) (by omega) (aEV (by omega))).q ?_
   refine aa5 (aab (.tmp aaf)).q aae (aaj auy (by kernel_rfl)) ?_
   refine aah (aad (aaz ?_))
   exact aaN rfl (.cons aaf .nil) (by rfl) Ent.refl
def aft (s:List Int) (x:Int) (j:Nat):List Int:=s.take j++x::s.drop j
theorem arT {x:Int}:∀ {s:List Int} {j:Nat},j≤s.length→(∀ e∈s.take j,e≤x)→(∀ h:j<s.length,x<s[j])→aqp x s=aft s x j
 | [],j,hj,_,_ =>by
  obtain rfl:j=0:=by simpa using hj
  rfl
 | y::s,0,_,_,h2 =>by
  have:=h2 (by simp)
  simp only [List.getElem_cons_zero] at this
  unfold aqp aft
  rw [if_neg (by omega)]; rfl
 | y::s,j+1,hj,h1,h2 =>by
  have hy:y≤x:=h1 y (by simp)
  unfold aqp
  rw [if_pos hy,arT (j:=j) (by simpa using hj) (fun e he =>h1 e (by simp [he])) (fun h =>by have:=h2 (by simpa using h); simpa using this)]
  simp [aft]
theorem ajt (x:Int):∀ s:List Int,(aqp x s).Perm (x::s)
 | [] =>.refl _
 | y::s =>by
  unfold aqp
  split
  ·exact ((ajt x s).cons y).trans (.swap ..)
  ·exact .refl _
theorem atk {x:Int}:∀ {s:List Int},s.Pairwise (·≤·)→(aqp x s).Pairwise (·≤·)
 | [],_ =>by simp [aqp]
 | y::s,h =>by
  obtain ⟨h1,h2⟩:=List.pairwise_cons.1 h
  unfold aqp
  split
  ·rename_i hy
   refine List.pairwise_cons.2 ⟨fun e he =>?_,atk h2⟩
   rcases List.mem_cons.1 ((ajt x s).mem_iff.1 he) with e1 | e1
   ·omega
   ·exact h1 e e1
  ·rename_i hy
   refine List.pairwise_cons.2 ⟨fun e he =>?_,h⟩
   rcases List.mem_cons.1 he with e1 | e1
   ·omega
   ·have:=h1 e e1; omega
theorem amP (l:List Int) (x:Int):ab2 (l++[x])=aqp x (ab2 l):=by simp [ab2]
theorem ajy:∀ (l s:List Int),(l.foldl (fun s x =>aqp x s) s).length=s.length+l.length
 | [],s =>by simp
 | x::l,s =>by
  rw [List.foldl_cons,ajy l,(ajt x s).length_eq]; simp; omega
theorem acB (l:List Int):(ab2 l).length=l.length:=by unfold ab2; rw [ajy]; simp
theorem ajx:∀ (l s:List Int),s.Pairwise (·≤·)→(l.foldl (fun s x =>aqp x s) s).Pairwise (·≤·)
 | [],_,h =>h
 | x::l,s,h =>by rw [List.foldl_cons]; exact ajx l _ (atk h)
theorem avt (l:List Int):(ab2 l).Pairwise (·≤·):=ajx l [] List.Pairwise.nil
theorem ait:∀ (l s:List Int),(l.foldl (fun s x =>aqp x s) s).Perm (s++l)
 | [],s =>by simp
 | x::l,s =>by
  rw [List.foldl_cons]
  refine (ait l _).trans ?_
  refine ((ajt x s).append_right l).trans ?_
  simpa using (List.perm_middle (l₁:=s) (a:=x) (l₂:=l)).symm
theorem at0 (l:List Int):(ab2 l).Perm l:=by simpa [ab2] using ait l []
theorem ahe {l:List Int} {k:Nat} (h:k<l.length):l.take (k+1)=l.take k++[gi l k]:=by
 rw [List.take_succ_eq_append_getElem h]; simp [gi,h]
theorem ar8 {l:List Int} {k:Nat} (h:k<l.length):l.drop k=gi l k::l.drop (k+1):=by
 rw [List.drop_eq_getElem_cons h]; simp [gi,h]
theorem afs {s:List Int} {x:Int} {j:Nat}:(aft s x j).length=s.length+1:=by simp [aft]; omega
theorem azI {s:List Int} {x:Int} {j:Nat} {t:List Int} (h:j≤s.length):gi (aft s x j++t) j=x:=by
 unfold gi aft
 simp [List.getD_eq_getElem?_getD,List.getElem?_append,h]
theorem aoI {s:List Int} {x:Int} {j:Nat} {t:List Int} (h:j≤s.length) (h0:0<j):gi (aft s x j++t) (j-1)=gi s (j-1):=by
 unfold gi aft
 have h1:j-1<j:=by omega
 have h2:j-1<min j s.length:=by omega
 simp [List.getD_eq_getElem?_getD,List.getElem?_append,h1,h2,List.getElem?_take,show j-1<s.length by omega]
theorem auH {s:List Int} {x:Int} {j:Nat} {t:List Int} (h:j≤s.length) (h0:0<j):((aft s x j++t).set j (gi s (j-1))).set (j-1) x=aft s x (j-1)++t:=by
 obtain ⟨i,rfl⟩:∃ i,j=i+1:=⟨j-1,by omega⟩
 simp only [Nat.add_sub_cancel]
 have hi:i<s.length:=by omega
 have e1:aft s x (i+1)=s.take i++gi s i::x::s.drop (i+1):=by unfold aft; rw [ahe hi]; simp
 have e2:aft s x i=s.take i++x::gi s i::s.drop (i+1):=by unfold aft; rw [ar8 hi]
 have hl:(s.take i).length=i:=by simp; omega
 rw [e1,e2]
 rw [List.append_assoc,List.append_assoc]
 rw [List.set_append_right _ _ (by omega),List.set_append_right _ _ (by omega)]
 rw [hl,show i+1-i=1 by omega,Nat.sub_self]
 rfl
theorem aq5 {s:List Int} {x:Int} {j:Nat} (hs:s.Pairwise (·≤·)) (hj:j≤s.length) (h:j=0∨gi s (j-1)≤x):∀ e∈s.take j,e≤x:=by
 intro e he
 rcases h with h | h
 ·subst h; simp at he
 ·obtain ⟨i,hi⟩:=List.mem_iff_getElem?.1 he
  have hij:i<j:=by have:=(List.getElem?_eq_some_iff.1 hi).1; simp at this; omega
  rw [List.getElem?_take_of_lt hij] at hi
  have hil:=(List.getElem?_eq_some_iff.1 hi).1
  have hie:=(List.getElem?_eq_some_iff.1 hi).2
  have hjl:j-1<s.length:=by omega
  have hle:s[i]≤s[j-1]:=by
   rcases Nat.lt_or_ge i (j-1) with h1 | h1
   ·exact List.pairwise_iff_getElem.1 hs i (j-1) hil hjl h1
   ·have:i=j-1:=by omega
    subst this; omega
  have:gi s (j-1)=s[j-1]:=by simp [gi,hjl]
  omega
theorem auI {s:List Int} {x:Int} {j:Nat} (hs:s.Pairwise (·≤·)) (hj:j≤s.length) (h:j=0∨gi s (j-1)≤x) (hd:∀ e∈s.drop j,x<e):aft s x j=aqp x s :=
 (arT hj (aq5 hs hj h) (fun hlt =>hd _ (List.mem_iff_getElem?.2 ⟨0,by simp [hlt]⟩))).symm
theorem axz {s:List Int} {x:Int} {j:Nat} (hj:j≤s.length) (h0:0<j) (h:x<gi s (j-1)) (hd:∀ e∈s.drop j,x<e):∀ e∈s.drop (j-1),x<e:=by
 obtain ⟨i,rfl⟩:∃ i,j=i+1:=⟨j-1,by omega⟩
 simp only [Nat.add_sub_cancel] at *
 intro e he
 rw [ar8 (by omega)] at he
 rcases List.mem_cons.1 he with e1 | e1
 ·omega
 ·exact hd e e1
theorem atZ {l:List Int} (h:1≤l.length):l=ab2 (l.take 1)++l.drop 1:=by
 cases l with
 | nil =>simp at h
 | cons x l =>simp [ab2,aqp]
theorem aBm {l:List Int} {k:Nat} (h:k<l.length):ab2 (l.take k)++l.drop k=aft (ab2 (l.take k)) (gi l k) k++l.drop (k+1):=by
 have hl:(ab2 (l.take k)).length=k:=by rw [acB]; simp; omega
 unfold aft
 have e1:(ab2 (l.take k)).drop k=[]:=List.drop_eq_nil_of_le (by omega)
 have e2:(ab2 (l.take k)).take k=ab2 (l.take k):=List.take_of_length_le (by omega)
 rw [e1,e2,ar8 h]; simp
theorem asE {l:List Int} {k j:Nat} (h:k<l.length) (hj:j≤k) (h1:j=0∨gi (ab2 (l.take k)) (j-1)≤gi l k) (hd:∀ e∈(ab2 (l.take k)).drop j,gi l k<e) :
  aft (ab2 (l.take k)) (gi l k) j++l.drop (k+1)=ab2 (l.take (k+1))++l.drop (k+1):=by
 have hl:(ab2 (l.take k)).length=k:=by rw [acB]; simp; omega
 rw [auI (avt _) (by omega) h1 hd,ahe h,amP]
def aeR (bs:List Int) (s st:Int):Nat→Int×Int
 | 0 =>(-1,-1)
 | i+1 =>
  if (acJ st bs.length+i) % bs.length≠s∧(aeR bs s st i).2<akR (gi bs ((acJ st bs.length+i) % bs.length).toNat)-1 then
   ((acJ st bs.length+i) % bs.length,akR (gi bs ((acJ st bs.length+i) % bs.length).toNat)-1) else aeR bs s st i
theorem afg {bs:List Int} {s st:Int} {i:Nat} (h1:(acJ st bs.length+i) % bs.length≠s) (h2:(aeR bs s st i).2<akR (gi bs ((acJ st bs.length+i) % bs.length).toNat)-1) :
  aeR bs s st (i+1)=((acJ st bs.length+i) % bs.length,akR (gi bs ((acJ st bs.length+i) % bs.length).toNat)-1):=by
 rw [aeR,if_pos ⟨h1,h2⟩]
theorem agc {bs:List Int} {s st:Int} {i:Nat} (h:¬ ((acJ st bs.length+i) % bs.length≠s∧(aeR bs s st i).2<akR (gi bs ((acJ st bs.length+i) % bs.length).toNat)-1)) :
  aeR bs s st (i+1)=aeR bs s st i:=by
 rw [aeR,if_neg h]
theorem ar6 {L:List aak} {A:Option Addr} {m c:Nat} {k:IntKind} {xs:List Int} {i:Nat} {e:Int}:Ent (abA A m c 1 ((xs.map (Value.int k)).set i (.int k e))::L) (abA A m c 1 ((xs.set i e).map (Value.int k))::L):=Ent.eq (by rw [List.map_set])
theorem aiI {L:List aak} {A:Option Addr} {m c:Nat} {f:Int→Value} {xs ys:List Int} (h:xs=ys):Ent (abA A m c 1 (xs.map f)::L) (abA A m c 1 (ys.map f)::L):=h▸Ent.refl
theorem al7 {L:List aak} {A:Option Addr} {m c:Nat} {f:Int→Value} {xs ys:List Int}:Ent (abA A m c 1 (xs.map f++ys.map f)::L) (abA A m c 1 ((xs++ys).map f)::L):=Ent.eq (by rw [List.map_append])
theorem aDF {A:Option Addr} {cap sz:Nat}:(if cap=0 then A else A.map fun a =>a.add (0*sz))=A:=by
 split
 ·rfl
 ·cases A with
  | none =>rfl
  | some a =>simp [Addr.add]
theorem adu {R:abn} {o:Operand} {k:IntKind} {e:Int} {l:Nat} (h:EvalR R o (.int k e)) (he:e=(l:Int)):EvalR R o (.int k (l:Int)):=he▸h
set_option maxRecDepth 100000 in
theorem ash (A:Option Addr) (cap:Nat) (bs:List Int) (sf st:Int) (hwf:CWf bs) (hlen:bs.length≤16) {B:Nat} {W:World} (hS:Sl afJ 1 W B A bs) (L:List aak):adV Tryz.prog 122 #[.slice A bs.length cap,.int .i64 sf,.int .i64 st] B W L (.tuple #[.int .i64 (aeR bs sf st bs.length).1,.int .i64 (aeR bs sf st bs.length).2]):=by
 refine aay Tryz.func122 rfl (m:=43) rfl (Nat.le_of_ble_eq_true rfl) (R:=[(0,.slice A bs.length cap),(1,.int .i64 sf),(2,.int .i64 st)]) (by kernel_rfl) ?_
 refine aag (aaa ?_)
 refine rtn (aab .const).q ?_
 refine rtn (aab .const).q ?_
 refine aah (aad ?_)
 refine aag (aaa ?_)
 refine aa5 (aab .const).q aae (aaj agv (by kernel_rfl)) ?_
 refine aa5 (aab .const).q aae (aaj agv (by kernel_rfl)) ?_
 refine aah (aad ?_)
 refine aag (aaa ?_)
 refine rtn (aac (.tmp aaC)).q ?_
 refine rtn (adq (.tmp aaf) Tryz.underlying23).q ?_
 refine rtn (aab (.tmp aaf)).q ?_
 refine aah (aad ?_)
 refine aag (aag (aaa ?_))
 refine rtn (aac (.tmp aaf)).q ?_
 refine rtn (aac .const).q ?_
 refine aah (aad ?_)
 refine aaU ?_
 refine aey (X:=Nat) (fun k =>bs.length-k) (fun k =>k≤bs.length) (fun k =>[(15,.int .i64 ((k:Int))),(14,.int .i64 (((bs.length:Nat):Int))),(8,.int .i64 (((bs.length:Nat):Int))),(7,.int .i64 ((aeR bs sf st k).2)),(6,.int .i64 ((aeR bs sf st k).1)),(0,.slice A bs.length cap),(1,.int .i64 sf),(2,.int .i64 st)]) (fun k =>L) 0 (by omega) (.cons aaf (congrArg (Value.int .i64) (by first | rfl | omega | (simp; omega) | simp)) (.cons aap rfl (.cons aaC rfl (.cons acU (congrArg (Value.int .i64) (by first | rfl | omega | (simp; omega) | simp)) (.cons adz (congrArg (Value.int .i64) (by first | rfl | omega | (simp; omega) | simp)) (.cons aeX rfl (.cons adK rfl (.cons aff rfl .nil)))))))) (Ent.refl) (fun k hi1 =>?_)
 refine aag (aaa ?_)
 refine rtn (abE (.tmp aaf) (.tmp aap)).q ?_
 refine aah (aad (aag ?_))
 refine abT (.tmp aaf) (fun h2 =>?_) (fun h2 =>?_)
 ·obtain ⟨hd1,hd2⟩:=al8 (d:=st) (n:=((bs.length:Nat):Int)) (by omega)
  have he1:=Int.emod_nonneg (acJ st ((bs.length:Nat):Int)+(k:Int)) (show ((bs.length:Nat):Int)≠0 by omega)
  have he2:=Int.emod_lt_of_pos (acJ st ((bs.length:Nat):Int)+(k:Int)) (show 0<((bs.length:Nat):Int) by omega)
  have hw1:=hwf ((acJ st ((bs.length:Nat):Int)+(k:Int)) % ((bs.length:Nat):Int)).toNat
  refine aaD ?_
  refine aad (aag ?_)
  refine aaU ?_
  refine aag (aaa ?_)
  refine rtn (aac (.tmp aap)).q ?_
  refine rtn (aab (.tmp aaf)).q ?_
  refine aah (aad ?_)
  refine aag (aaa ?_)
  refine rtn (aac (.tmp acP)).q ?_
  refine rtn (aac (.tmp adz)).q ?_
  refine rtn (aaw (by kernel_rfl) (.cons (.tmp aap) (.cons (.tmp aaf) .nil)) (azn _ _ (by omega) B W _)) ?_
  refine rtn (aac (.tmp aa1)).q ?_
  refine rtn (aaM (.tmp aap) (.tmp aaf) (w64 (by omega) (by omega))).q ?_
  refine rtn (aac (.tmp acP)).q ?_
  refine rtn (akA (.tmp aap) (.tmp aaf) (by omega) (at7 (by omega))).q ?_
  refine rtn (aab (.tmp aaf)).q ?_
  refine aah (aad ?_)
  refine aag (aaa ?_)
  refine rtn (aac (.tmp aem)).q ?_
  refine rtn (aac (.tmp aap)).q ?_
  refine rtn (ack (i:=((((acJ st (((bs.length:Nat):Int)))+(k:Int)) % ((bs.length:Nat):Int))).toNat) (.tmp aap) (.tmp aaf) hS (by omega) (by omega) (by omega) (by kernel_rfl) (Nat.mul_one _)).q ?_
  refine rtn (aci (i:=((((acJ st (((bs.length:Nat):Int)))+(k:Int)) % ((bs.length:Nat):Int))).toNat) (j:=0) (.tmp aaf) hS (adL (by omega)) rfl (by omega) (by kernel_rfl)) ?_
  refine rtn (aaw (by kernel_rfl) (.cons (.tmp aaf) .nil) (axb _ (by omega) (by omega) B W _)) ?_
  refine rtn (aab (.tmp aaf)).q ?_
  refine aah (aad ?_)
  refine aag (aaa ?_)
  refine rtn (aac (.tmp adz)).q ?_
  refine rtn (aac (.tmp (aar abk))).q ?_
  refine rtn (agZ (.tmp aap) (.tmp aaf)).q ?_
  refine rtn (aac (.tmp aaf)).q ?_
  refine abm aaR aaR (fun h3 =>?_) (fun h3 =>?_)
  ·refine rts (aac (.tmp abk)).q aaf ?_
   refine rts (aac (.tmp (aar acU))).q aap ?_
   refine rts (afI (.tmp aap) (.tmp aaf)).q aaC ?_
   refine rtn (aat (b:=true) (.tmp aa1) (.tmp aaf)).q ?_
   refine aah (aad ?_)
   refine abT (.tmp aaf) (fun h4 =>?_) (fun h4 =>?_)
   ·refine aaa ?_
    refine rtn (aac (.tmp aew)).q ?_
    refine rtn (aac (.tmp aff)).q ?_
    refine aa5 (aab (.tmp aap)).q aae (aaj (aa0 awv) (by kernel_rfl)) ?_
    refine aa5 (aab (.tmp aap)).q aae (aaj (aa0 awv) (by kernel_rfl)) ?_
    refine aah ?_
    refine aa7 ?_
    refine aad (aaa ?_)
    refine rtn (aaM (.tmp (aar aff)) .const (w64 (by omega) (by omega))).q ?_
    refine aa5 (aac (.tmp aaf)).q aae (aaj (aa0 akz) (by kernel_rfl)) ?_
    refine aah ?_
    exact abW (n:=43) ((k+1)) (by omega) (by omega) (.cons aaf (congrArg (Value.int .i64) (by first | rfl | omega | (simp; omega) | simp)) (.cons (aar acT) rfl (.cons (aar aeg) rfl (.cons aaC (congrArg (Value.int .i64) (by first | rw [afg (by omega) (by omega)] | rw [agc (by omega)])) (.cons aa1 (congrArg (Value.int .i64) (by first | rw [afg (by omega) (by omega)] | rw [agc (by omega)])) (.cons (aar ad3) rfl (.cons (aar aew) rfl (.cons (aar adP) rfl .nil)))))))) (Ent.refl)
   ·refine aaD ?_
    refine aa7 ?_
    refine aad (aaa ?_)
    refine rtn (aaM (.tmp (aar acU)) .const (w64 (by omega) (by omega))).q ?_
    refine aa5 (aac (.tmp aaf)).q aae (aaj (aa0 aom) (by kernel_rfl)) ?_
    refine aah ?_
    exact abW (n:=43) ((k+1)) (by omega) (by omega) (.cons aaf (congrArg (Value.int .i64) (by first | rfl | omega | (simp; omega) | simp)) (.cons (aar aeX) rfl (.cons (aar adK) rfl (.cons (aar aff) (congrArg (Value.int .i64) (by first | rw [afg (by omega) (by omega)] | rw [agc (by omega)])) (.cons (aar acP) (congrArg (Value.int .i64) (by first | rw [afg (by omega) (by omega)] | rw [agc (by omega)])) (.cons (aar acT) rfl (.cons (aar aeg) rfl (.cons (aar ad3) rfl .nil)))))))) (Ent.refl)
  ·refine rtk aaf ?_
   refine rtk aap ?_
   refine rtk aaC ?_
   refine rtn (aat (b:=false) (.tmp aa1) .const).q ?_
   refine aah (aad ?_)
   refine afK (.tmp aaf) ?_
   refine aaD ?_
   refine aa7 ?_
   refine aad (aaa ?_)
   refine rtn (aaM (.tmp (aar acU)) .const (w64 (by omega) (by omega))).q ?_
   refine aa5 (aac (.tmp aaf)).q aae (aaj (aa0 aom) (by kernel_rfl)) ?_
   refine aah ?_
   exact abW (n:=43) ((k+1)) (by omega) (by omega) (.cons aaf (congrArg (Value.int .i64) (by first | rfl | omega | (simp; omega) | simp)) (.cons (aar aeX) rfl (.cons (aar adK) rfl (.cons (aar aff) (congrArg (Value.int .i64) (by first | rw [afg (by omega) (by omega)] | rw [agc (by omega)])) (.cons (aar acP) (congrArg (Value.int .i64) (by first | rw [afg (by omega) (by omega)] | rw [agc (by omega)])) (.cons (aar acT) rfl (.cons (aar aeg) rfl (.cons (aar ad3) rfl .nil)))))))) (Ent.refl)
 ·refine aco ?_
  refine aaq ?_
  refine aaq ?_
  refine aaK ?_
  refine aad (aag (aaa ?_))
  refine rtn (aac (.tmp acU)).q ?_
  refine rtn (aac (.tmp acU)).q ?_
  refine aa5 (aab (.tmp aap)).q aae (aaj ael (by kernel_rfl)) ?_
  refine aa5 (aab (.tmp aap)).q aae (aaj ael (by kernel_rfl)) ?_
  refine aah (aad (aaz ?_))
  exact aaN rfl (.cons aap (.cons aaf .nil)) (by have e:k=bs.length:=(by omega); subst e; rfl) Ent.refl
set_option maxRecDepth 100000 in
theorem auF (a:Int) (B:Nat) (W:World) (L:List aak):adV Tryz.prog 228 #[.int .u64 a] B W L (.bool false):=by
 refine aay Tryz.func228 rfl (m:=6) rfl (Nat.le_of_ble_eq_true rfl) (R:=[(0,.int .u64 a)]) (by kernel_rfl) ?_
 refine aag (aaa ?_)
 refine rtn (aab .const).q ?_
 refine aah (aad ?_)
 refine aag (aaa ?_)
 refine rtn (aac (.tmp aap)).q ?_
 refine rtn (aac (.tmp aaC)).q ?_
 refine rtn (agZ (.tmp aap) (.tmp aaf)).q ?_
 refine aa5 (aab (.tmp aaf)).q aae (aaj auz (by kernel_rfl)) ?_
 refine aah (aad (aaz ?_))
 exact aaN rfl (.cons aaf .nil) (by simp [abN]) Ent.refl
set_option maxRecDepth 100000 in
theorem awQ (a b:Int) (B:Nat) (W:World) (L:List aak):adV Tryz.prog 219 #[.int .u64 a,.int .u64 b] B W L (.bool (decide (a<b))):=by
 refine aay Tryz.func219 rfl (m:=17) rfl (Nat.le_of_ble_eq_true rfl) (R:=[(0,.int .u64 a),(1,.int .u64 b)]) (by kernel_rfl) ?_
 refine aag (aaa ?_)
 refine rtn (aab .const).q ?_
 refine aah (aad ?_)
 refine aag (aaa ?_)
 refine rtn (aac (.tmp aap)).q ?_
 refine rtn (aaw (by kernel_rfl) (.cons (.tmp aaf) .nil) (auF _ B W _)) ?_
 refine rtn (aac (.tmp aaf)).q ?_
 refine rtk aaf ?_
 refine rtk aap ?_
 refine rtk aaC ?_
 refine rtn (aat (b:=false) (.tmp aa1) .const).q ?_
 refine rtn (aac (.tmp aaf)).q ?_
 refine rts (aac (.tmp aff)).q aaf ?_
 refine rts (aac (.tmp acT)).q aap ?_
 refine rts (abE (.tmp aap) (.tmp aaf)).q aaC ?_
 refine rtn (aat (b:=false) (.tmp aa1) (.tmp aaf)).q ?_
 refine aa5 (aab (.tmp aaf)).q aae (aaj afH (by kernel_rfl)) ?_
 refine aah (aad (aaz ?_))
 exact aaN rfl (.cons aaf .nil) (by rfl) Ent.refl
set_option maxRecDepth 100000 in
theorem aqq (A:Option Addr) (cap:Nat) (xs:List Int) (h1:1≤xs.length) (h2:xs.length≤64) (B:Nat) (W:World):Fn_ Tryz.prog 213 #[.slice A xs.length cap,.int .i64 0,.int .i64 (((xs.length:Nat):Int))] B W [abA A xs.length cap 1 (xs.map (Value.int .u64))] (X:=Unit) (fun _ =>.tuple #[]) (fun _ =>[abA A xs.length cap 1 ((ab2 xs).map (Value.int .u64))]):=by
 refine acV Tryz.func213 rfl (m:=49) rfl (Nat.le_of_ble_eq_true rfl) (R:=[(0,.slice A xs.length cap),(1,.int .i64 0),(2,.int .i64 (((xs.length:Nat):Int)))]) (by kernel_rfl) (fun F =>?_)
 refine aag (aaa ?_)
 refine rtn (aac (.tmp aap)).q ?_
 refine rtn (aaM (.tmp aaf) .const (w64 (by omega) (by omega))).q ?_
 refine rtn (aab (.tmp aaf)).q ?_
 refine aah (aad ?_)
 refine aaU ?_
 refine aey (X:=Nat) (fun k =>xs.length-k) (fun k =>1≤k∧k≤xs.length) (fun k =>[(6,.int .i64 ((k:Int))),(0,.slice A xs.length cap),(1,.int .i64 0),(2,.int .i64 (((xs.length:Nat):Int)))]) (fun k =>abA A xs.length cap 1 ((ab2 (xs.take k)++xs.drop k).map (Value.int .u64))::[F]) 1 (⟨by omega,by omega⟩) (.cons aaf (congrArg (Value.int .i64) (by first | rfl | omega | (simp; omega) | simp)) (.cons aa1 rfl (.cons abk rfl (.cons acU rfl .nil)))) (aiI (atZ h1)) (fun k hi1 =>?_)
 obtain ⟨hk1,hk2⟩:=hi1
 refine aag (aag (aaa ?_))
 refine rtn (aac (.tmp aaf)).q ?_
 refine rtn (aac (.tmp abk)).q ?_
 refine rtn (abE (.tmp aap) (.tmp aaf)).q ?_
 refine aah (aad ?_)
 refine abT (.tmp aaf) (fun h2 =>?_) (fun h2 =>?_)
 ·have hsl:(ab2 (xs.take k)).length=k:=by rw [acB]; simp; omega
  refine aaD ?_
  refine aad (aag ?_)
  refine aaU ?_
  refine aag (aaa ?_)
  refine rtn (aac (.tmp aa1)).q ?_
  refine rtn (aab (.tmp aaf)).q ?_
  refine aah (aad ?_)
  refine aaU ?_
  refine aey (X:=Nat) (fun j =>j) (fun j =>j≤k∧∀ e∈(ab2 (xs.take k)).drop j,gi xs k<e) (fun j =>[(7,.int .i64 ((j:Int))),(15,.int .i64 ((k:Int))),(12,.bool (decide ((k:Int)<((xs.length:Nat):Int)))),(11,.int .i64 (((xs.length:Nat):Int))),(10,.int .i64 ((k:Int))),(6,.int .i64 ((k:Int))),(0,.slice A xs.length cap),(1,.int .i64 0),(2,.int .i64 (((xs.length:Nat):Int)))]) (fun j =>abA A xs.length cap 1 ((aft (ab2 (xs.take k)) (gi xs k) j++xs.drop (k+1)).map (Value.int .u64))::[F]) k (⟨Nat.le_refl _,by rw [List.drop_eq_nil_of_le (by omega)]; intro e he; cases he⟩) (.cons aaf (congrArg (Value.int .i64) (by first | rfl | omega | (simp; omega) | simp)) (.cons aap rfl (.cons aaC rfl (.cons aa1 rfl (.cons abk rfl (.cons acU rfl (.cons adz rfl (.cons aeX rfl (.cons adK rfl .nil))))))))) (aiI (aBm (by omega))) (fun j hi3 =>?_)
  obtain ⟨hjk,hdj⟩:=hi3
  refine aag (aag ?_)
  refine ad4 (by kernel_rfl) (by kernel_rfl) ?_
  refine qtn (aac (.tmp aaf)).q ?_
  refine qtn (aac (.tmp adK)).q ?_
  refine qtn (afI (.tmp aap) (.tmp aaf)).q ?_
  refine qtn (aac (.tmp aaf)).q ?_
  refine aok aaR aaR (fun h4 =>?_) (fun h4 =>?_)
  ·have hg1:=azI (s:=ab2 (xs.take k)) (x:=gi xs k) (j:=j) (t:=xs.drop (k+1)) (by omega)
   have hj1:((j:Int)-1).toNat=j-1:=by omega
   have hg2:gi (aft (ab2 (xs.take k)) (gi xs k) j++xs.drop (k+1)) ((j:Int)-1).toNat=gi (ab2 (xs.take k)) (j-1):=by rw [hj1]; exact aoI (by omega) (by omega)
   refine qts (aac (.tmp acP)).q aaf ?_
   refine qts (aac (.tmp acU)).q aap ?_
   refine qts (acj (i:=j) (.tmp aap) (.tmp aaf) aaf (by omega) (by omega) (by omega) (by kernel_rfl) (Nat.mul_one _)) aaC ?_
   refine qts (adk (i:=j) (.tmp aaf) aaf (agb (by simp [afs,acB]; omega)) (by kernel_rfl)) aa1 ?_
   refine qts (aac (.tmp aew)).q abk ?_
   refine qts (aac (.tmp aff)).q acU ?_
   refine qts (ae3 (.tmp aaf) .const (w64 (by omega) (by omega))).q adz ?_
   refine qts (acj (i:=(((j:Int)-1)).toNat) (.tmp aaC) (.tmp aaf) aaf (by omega) (by omega) (by omega) (by kernel_rfl) (Nat.mul_one _)) aeX ?_
   refine qts (adk (i:=(((j:Int)-1)).toNat) (.tmp aaf) aaf (agb (by simp [afs,acB]; omega)) (by kernel_rfl)) adK ?_
   refine qts (aaw (by kernel_rfl) (.cons (.tmp acU) (.cons (.tmp aaf) .nil)) (awQ _ _ B W _)) aff ?_
   refine qtn (aat (b:=true) (.tmp acP) (.tmp aaf)).q ?_
   refine adI (aad ?_)
   refine abT (.tmp aaf) (fun h5 =>?_) (fun h5 =>?_)
   ·refine aaD ?_
    refine aad (aag ?_)
    refine aaU ?_
    refine axH 18 (by kernel_rfl) rfl (listed:=#[false,false,false,false,false,false,false,false,false,false,false,false,false,false,false,false,false,false]) rfl ?_
    refine acD 0 (by kernel_rfl) (l':=#[true,false,false,false,false,false,false,false,false,false,false,false,false,false,false,false,false,false]) rfl rfl rfl (aac (.tmp (aar aap))) aae (aba (by kernel_rfl)) ?_
    refine acD 1 (by kernel_rfl) (l':=#[true,true,false,false,false,false,false,false,false,false,false,false,false,false,false,false,false,false]) rfl rfl rfl (aac (.tmp aem)) aae (aba (by kernel_rfl)) ?_
    refine acD 2 (by kernel_rfl) (l':=#[true,true,true,false,false,false,false,false,false,false,false,false,false,false,false,false,false,false]) rfl rfl rfl (aac (.tmp (aar aa1))) aae (aba (by kernel_rfl)) ?_
    refine acD 3 (by kernel_rfl) (l':=#[true,true,true,true,false,false,false,false,false,false,false,false,false,false,false,false,false,false]) rfl rfl rfl (aac (.tmp aeP)) aae (aba (by kernel_rfl)) ?_
    refine acD 4 (by kernel_rfl) (l':=#[true,true,true,true,true,false,false,false,false,false,false,false,false,false,false,false,false,false]) rfl rfl rfl (ae3 (.tmp aaf) .const (w64 (by omega) (by omega))) aae (aba (by kernel_rfl)) ?_
    refine acD 5 (by kernel_rfl) (l':=#[true,true,true,true,true,true,false,false,false,false,false,false,false,false,false,false,false,false]) rfl rfl rfl (aac (.tmp (aar adz))) aae (aba (by kernel_rfl)) ?_
    refine acD 6 (by kernel_rfl) (l':=#[true,true,true,true,true,true,true,false,false,false,false,false,false,false,false,false,false,false]) rfl rfl rfl (aac (.tmp (aar aap))) aae (aba (by kernel_rfl)) ?_
    refine acD 7 (by kernel_rfl) (l':=#[true,true,true,true,true,true,true,true,false,false,false,false,false,false,false,false,false,false]) rfl rfl rfl (ae3 (.tmp aaf) .const (w64 (by omega) (by omega))) aae (aba (by kernel_rfl)) ?_
    refine acD 10 (by kernel_rfl) (l':=#[true,true,true,true,true,true,true,true,false,false,true,false,false,false,false,false,false,false]) rfl rfl rfl (aac (.tmp (aar aff))) aae (aba (by kernel_rfl)) ?_
    refine acD 11 (by kernel_rfl) (l':=#[true,true,true,true,true,true,true,true,false,false,true,true,false,false,false,false,false,false]) rfl rfl rfl (aac (.tmp (aar abk))) aae (aba (by kernel_rfl)) ?_
    refine ao8 [8,9,12,13,14] 3 rfl (by kernel_rfl) (l':=#[true,true,true,true,true,true,true,true,true,true,true,true,true,true,true,false,false,false]) rfl ?_
    refine qtn (acj (i:=(((j:Int)-1)).toNat) (.tmp abk) (.tmp aaC) aaf (by omega) (by omega) (by omega) (by kernel_rfl) (Nat.mul_one _)) ?_
    refine qtn (adk (i:=(((j:Int)-1)).toNat) (.tmp aaf) aaf (agb (by simp [afs,acB]; omega)) (by kernel_rfl)) ?_
    refine qtn (acj (i:=j) (.tmp aa1) (.tmp aaC) aaf (by omega) (by omega) (by omega) (by kernel_rfl) (Nat.mul_one _)) ?_
    refine qtn (adk (i:=j) (.tmp aaf) aaf (agb (by simp [afs,acB]; omega)) (by kernel_rfl)) ?_
    refine qtn (acj (i:=j) (.tmp ad3) (.tmp aeg) aaf (by omega) (by omega) (by omega) (by kernel_rfl) (Nat.mul_one _)) ?_
    refine adI ?_
    refine aEt 15 (by kernel_rfl) (l':=#[true,true,true,true,true,true,true,true,true,true,true,true,true,true,true,true,false,false]) rfl rfl (alJ (i:=j) (.tmp aaf) (.tmp aa1) aaR (by simp [afs,acB]; first | omega | skip) (by kernel_rfl) rfl) aae (fun _ =>aa3) (fun _ =>?_)
    refine atK ar6 ?_
    refine aFV 16 (by kernel_rfl) (l':=#[true,true,true,true,true,true,true,true,true,true,true,true,true,true,true,true,true,false]) rfl rfl (acj (i:=(((j:Int)-1)).toNat) (.tmp aeg) (.tmp acP) aaf (by omega) (by omega) (by omega) (by kernel_rfl) (Nat.mul_one _)) aae (aba (by kernel_rfl)) ?_
    refine aEt 17 (by kernel_rfl) (l':=#[true,true,true,true,true,true,true,true,true,true,true,true,true,true,true,true,true,true]) rfl rfl (alJ (i:=(((j:Int)-1)).toNat) (.tmp aaf) (.tmp aaC) aaR (by simp [afs,acB]; first | omega | skip) (by kernel_rfl) rfl) aae (fun _ =>aa3) (fun _ =>?_)
    refine atK ar6 ?_
    refine ax5 (by kernel_rfl) ?_
    refine aa7 ?_
    refine aad (aaa ?_)
    refine rtn (aac (.tmp (aar acT))).q ?_
    refine rtn (ae3 (.tmp aaf) .const (w64 (by omega) (by omega))).q ?_
    refine aa5 (aab (.tmp aaf)).q aae (aaj (aa0 afG) (by kernel_rfl)) ?_
    refine aah ?_
    exact abW (n:=49) ((j-1)) (⟨by omega,axz (by omega) (by omega) (by omega) hdj⟩) (by omega) (.cons aaf (congrArg (Value.int .i64) (by first | rfl | omega | (simp; omega) | simp)) (.cons (aar aew) rfl (.cons (aar adP) rfl (.cons (aar aem) rfl (.cons (aar ad9) rfl (.cons (aar aeP) rfl (.cons (aar aev) rfl (.cons (aar (aar aaf)) rfl (.cons (aar (aar aap)) rfl .nil))))))))) (aiI (by rw [hg1,hg2,hj1]; exact auH (by omega) (by omega)))
   ·refine aco ?_
    refine aaq ?_
    refine aaq ?_
    refine aaK ?_
    refine aa7 ?_
    refine aad (aaa ?_)
    refine rtn (aac (.tmp (aar aaf))).q ?_
    refine rtn (aaM (.tmp aaf) .const (w64 (by omega) (by omega))).q ?_
    refine aa5 (aab (.tmp aaf)).q aae (aaj (aa0 awu) (by kernel_rfl)) ?_
    refine aah ?_
    exact abW (n:=49) ((k+1)) (⟨by omega,by omega⟩) (by omega) (.cons aaf (congrArg (Value.int .i64) (by first | rfl | omega | (simp; omega) | simp)) (.cons (aar aa1) rfl (.cons (aar abk) rfl (.cons (aar acU) rfl .nil)))) (aiI (asE (by omega) (by omega) (by first | exact .inl (by omega) | exact .inr (by omega)) hdj))
  ·refine qtk aaf ?_
   refine qtk aap ?_
   refine qtk aaC ?_
   refine qtk aa1 ?_
   refine qtk abk ?_
   refine qtk acU ?_
   refine qtk adz ?_
   refine qtk aeX ?_
   refine qtk adK ?_
   refine qtk aff ?_
   refine qtn (aat (b:=false) (.tmp acP) .const).q ?_
   refine adI (aad ?_)
   refine afK (.tmp aaf) ?_
   refine aco ?_
   refine aaq ?_
   refine aaq ?_
   refine aaK ?_
   refine aa7 ?_
   refine aad (aaa ?_)
   refine rtn (aac (.tmp (aar aaf))).q ?_
   refine rtn (aaM (.tmp aaf) .const (w64 (by omega) (by omega))).q ?_
   refine aa5 (aab (.tmp aaf)).q aae (aaj (aa0 awu) (by kernel_rfl)) ?_
   refine aah ?_
   exact abW (n:=49) ((k+1)) (⟨by omega,by omega⟩) (by omega) (.cons aaf (congrArg (Value.int .i64) (by first | rfl | omega | (simp; omega) | simp)) (.cons (aar aa1) rfl (.cons (aar abk) rfl (.cons (aar acU) rfl .nil)))) (aiI (asE (by omega) (by omega) (by first | exact .inl (by omega) | exact .inr (by omega)) hdj))
 ·refine aco ?_
  refine aaq ?_
  refine aaq ?_
  refine aaK ?_
  exact aqw () rfl .nil (by rfl) (aiI (by rw [show k=xs.length by omega,List.drop_length,List.take_length,List.append_nil]))
end
end Go.Proofs.YtjjbdbbmdhncjaaGreat
