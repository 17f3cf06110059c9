/- A system's parts: copies of them, likeness with itself, small acts. -/
import Derived.Test.YtdfohlonacbelaaGreatQ4
set_option linter.unusedSimpArgs false
set_option linter.unusedVariables false
namespace Go.Proofs.YtdfohlonacbelaaGreat
open Go.SX
theorem zoG {b:Nat}{f:(Int×(List (List Int)))→Option ((Int×(List (List Int)))⊕(List (List Int)))}{l:List (List Int)}(hf:∀ s,f s=(if decide (s.1<(List.length l:Int)) then
  (getO l s.1).bind fun v10 =>
  (zaD b v10).bind fun v11 =>
  (appO 24 s.2 ([v11]:List (List Int))).bind fun v13 =>
  some (Sum.inl (w64 (s.1 + (1:Int)),v13))
 else
  some (Sum.inr (s.2)))) (hb:b≤10000) (hl:l.length≤1000) (hr:∀ r∈l,r.length≤1000):zai f ((0:Int),([]:List (List Int)))=some l:=by
 have lp:=zaY (f:=f) (n:=l.length) (e:=l) (fun i=>((i:Int),l.take i)) (fun i hi=>by
  have hlt:(i:Int)<(List.length l:Int):=by omega
  have hbi:=hr _ (List.getElem_mem hi)
  have hc:zaD b l[i]=some l[i]:=zbN (by omega) hb
  have ha:appO 24 (l.take i) ([l[i]]:List (List Int))=some (l.take (i + 1)):=by
   rw [zbe (by simp;omega) (by omega),za7 hi]
  rw [hf]
  simp only [hlt,decide_true,if_true,zab hi,wC0,hc,ha,zat (show i<4611686018427387904 by omega)]) (by
  rw [hf]
  simp only [show ¬ (l.length:Int)<(List.length l:Int) by omega,decide_false,wA0,if_false,List.take_length])
 exact lp
theorem zxY {f:(Int×(List Entry))→Option ((Int×(List Entry))⊕(List Entry))}{l:List Entry}(hf:∀ s,f s=(if decide (s.1<(List.length l:Int)) then
  (getO l s.1).bind fun v25 =>
  (zaD 1 (Entry.Share v25)).bind fun v28 =>
  (appO 32 s.2 ([Entry.mk (Entry.Owner v25) v28]:List Entry)).bind fun v31 =>
  some (Sum.inl (w64 (s.1 + (1:Int)),v31))
 else
  some (Sum.inr (s.2)))) (hl:l.length≤1000) (hr:∀ r∈l,(Entry.Share r).length≤1000):zai f ((0:Int),([]:List Entry))=some l:=by
 have lp:=zaY (f:=f) (n:=l.length) (e:=l) (fun i=>((i:Int),l.take i)) (fun i hi=>by
  have hlt:(i:Int)<(List.length l:Int):=by omega
  have hbi:=hr _ (List.getElem_mem hi)
  have hc:zaD 1 (Entry.Share l[i])=some (Entry.Share l[i]):=zbN (by omega) (by omega)
  have he:Entry.mk (Entry.Owner l[i]) (Entry.Share l[i])=l[i]:=rfl
  have ha:appO 32 (l.take i) ([l[i]]:List Entry)=some (l.take (i + 1)):=by
   rw [zbe (by simp;omega) (by omega),za7 hi]
  rw [hf]
  simp only [hlt,decide_true,if_true,zab hi,wC0,hc,he,ha,zat (show i<4611686018427387904 by omega)]) (by
  rw [hf]
  simp only [show ¬ (l.length:Int)<(List.length l:Int) by omega,decide_false,wA0,if_false,List.take_length])
 exact lp
def U32 (x:Int):Prop:=0≤x∧x<4294967296
structure Ok10 (p:Proto):Prop where
 st:(Proto.State p).length≤1000∧∀ r∈Proto.State p,r.length≤1000
 va:(Proto.Val p).length≤1000∧∀ r∈Proto.Val p,r.length≤1000
 vw:∀ r∈Proto.Val p,∀ x∈r,U32 x
 wa:(Proto.Wait p).length≤1000
 ww:∀ w∈Proto.Wait p,U32 (Wait.Val w)
 ho:(Proto.Home p).length≤1000
 hw:∀ x∈Proto.Home p,U32 x
 di:(Proto.Dir p).length≤1000∧∀ e∈Proto.Dir p,(Entry.Share e).length≤1000
 bu:(Proto.Busy p).length≤1000
 po:ze4 (Proto.Pool p)
theorem zp4 {l:List Int}(hl:l.length≤1000):zj7 l l=some true:=zmH l (by omega)
theorem zkj {f:Int→Option (Int⊕Unit⊕Bool)}{n:Nat}(hn:n≤1000) (step:∀ i:Nat,i<n→i<1000→f (i:Int)=some (.inl ((i + 1:Nat):Int))) (out:f (n:Int)=some (.inr (.inl ()))):zai f (0:Int)=some (Sum.inl ()):=by
 have lp:=zaY (f:=f) (n:=n) (e:=(Sum.inl ():Unit⊕Bool)) (fun i=>(i:Int)) (fun i hi=>step i hi (by omega)) out
 exact lp
theorem zkx {p:Proto}(h:Ok10 p):zfY p p=some true:=by
 have l1:=zkj (f:=zgj p p) h.di.1 (fun i hi hk=>by
  unfold zgj
  have:=h.di.2 _ (List.getElem_mem hi)
  simp only [show (i:Int)<(List.length (Proto.Dir p):Int) by omega,decide_true,if_true,zab hi,wC0,zxm _ (show (((Entry.Share (Proto.Dir p)[i]).length:Nat):Int)≤9223372036854775807 by omega),wH0,wA0,if_false,zat (show i<4611686018427387904 by omega)]) (by
  unfold zgj
  simp only [show ¬ (List.length (Proto.Dir p):Int)<(List.length (Proto.Dir p):Int) by omega,decide_false,wA0,if_false])
 have l2:=zkj (f:=zgr p p) h.va.1 (fun i hi hk=>by
  unfold zgr
  simp only [show (i:Int)<(List.length (Proto.Val p):Int) by omega,decide_true,if_true,zab hi,wC0,zp4 (h.va.2 _ (List.getElem_mem hi)),wH0,wA0,if_false,zat (show i<4611686018427387904 by omega)]) (by
  unfold zgr
  simp only [show ¬ (List.length (Proto.Val p):Int)<(List.length (Proto.Val p):Int) by omega,decide_false,wA0,if_false])
 have l3:=zkj (f:=zfZ p p) h.st.1 (fun i hi hk=>by
  unfold zfZ
  have:=h.st.2 _ (List.getElem_mem hi)
  simp only [show (i:Int)<(List.length (Proto.State p):Int) by omega,decide_true,if_true,zab hi,wC0,zmH _ (show (((Proto.State p)[i].length:Nat):Int)≤9223372036854775807 by omega),wH0,wA0,if_false,zat (show i<4611686018427387904 by omega)]) (by
  unfold zfZ
  simp only [show ¬ (List.length (Proto.State p):Int)<(List.length (Proto.State p):Int) by omega,decide_false,wA0,if_false])
 have l4:=zkj (f:=zgz p p) h.wa (fun i hi hk=>by
  unfold zgz
  simp only [show (i:Int)<(List.length (Proto.Wait p):Int) by omega,decide_true,if_true,zab hi,wC0,wH0,wA0,if_false,zat (show i<4611686018427387904 by omega)]) (by
  unfold zgz
  simp only [show ¬ (List.length (Proto.Wait p):Int)<(List.length (Proto.Wait p):Int) by omega,decide_false,wA0,if_false])
 have hb:=h.bu
 unfold zfY
 simp only [decide_true,wH0,wA0,if_false,zmH _ (show (((Proto.Busy p).length:Nat):Int)≤9223372036854775807 by omega),zwJ h.po,wC0,l1,l2,l3,l4,zaf,zp4 h.ho]
theorem zr3 (a:Int):eqiO a a=some a:=by simp [eqiO]
theorem zhA {α:Type}{b:Nat}{l:List α}(h:l.length≤1000) (hb:b≤10000):appO b ([]:List α) l=some l:=by rw [zbe (by simp;omega) hb];rfl
theorem ziK {p:Proto}(h:Ok10 p) {n:Nat}(hn:n<(Proto.Wait p).length) (w:Wait):zc7 p (n:Int) w=some (Proto.mk (Proto.State p) (Proto.Val p) ((Proto.Wait p).set n w) (Proto.Home p) (Proto.Dir p) (Proto.Busy p) (Proto.Pool p)):=by
 unfold zc7
 simp only [zhA h.wa (show 40≤10000 by omega),wC0,zay hn,zaC hn]
theorem zzy {p:Proto}(h:Ok10 p) {n:Nat}(hn:n<(Proto.Home p).length) (w:Int):zmo p (n:Int) w=some (Proto.mk (Proto.State p) (Proto.Val p) (Proto.Wait p) ((Proto.Home p).set n w) (Proto.Dir p) (Proto.Busy p) (Proto.Pool p)):=by
 unfold zmo
 simp only [zhA h.ho (show 4≤10000 by omega),wC0,zay hn,zaC hn]
theorem zy4 {p:Proto}(h:Ok10 p) {n:Nat}(hn:n<(Proto.Dir p).length) (w:Entry):znQ p (n:Int) w=some (Proto.mk (Proto.State p) (Proto.Val p) (Proto.Wait p) (Proto.Home p) ((Proto.Dir p).set n w) (Proto.Busy p) (Proto.Pool p)):=by
 unfold znQ
 simp only [zhA h.di.1 (show 32≤10000 by omega),wC0,zay hn,zaC hn]
theorem zxT {p:Proto}(h:Ok10 p) {n:Nat}(hn:n<(Proto.Busy p).length) (w:Int):zkf p (n:Int) w=some (Proto.mk (Proto.State p) (Proto.Val p) (Proto.Wait p) (Proto.Home p) (Proto.Dir p) ((Proto.Busy p).set n w) (Proto.Pool p)):=by
 unfold zkf
 simp only [zhA h.bu (show 8≤10000 by omega),wC0,zay hn,zaC hn]
theorem zf8 {p:Proto}(h:Ok10 p) {n l:Nat}(hn:n<(Proto.State p).length) (hl:l<(Proto.State p)[n].length) (w:Int):zbV p (n:Int) (l:Int) w=some (Proto.mk ((Proto.State p).set n ((Proto.State p)[n].set l w)) (Proto.Val p) (Proto.Wait p) (Proto.Home p) (Proto.Dir p) (Proto.Busy p) (Proto.Pool p)):=by
 unfold zbV
 simp only [zhA h.st.1 (show 24≤10000 by omega),wC0,zay hn,zab hn,zhA (h.st.2 _ (List.getElem_mem hn)) (show 8≤10000 by omega),zr3,zay hl,zaC hl,zaC hn]
theorem zyS {p:Proto}(h:Ok10 p) {n l:Nat}(hn:n<(Proto.Val p).length) (hl:l<(Proto.Val p)[n].length) (w:Int):zkA p (n:Int) (l:Int) w=some (Proto.mk (Proto.State p) ((Proto.Val p).set n ((Proto.Val p)[n].set l w)) (Proto.Wait p) (Proto.Home p) (Proto.Dir p) (Proto.Busy p) (Proto.Pool p)):=by
 unfold zkA
 simp only [zhA h.va.1 (show 24≤10000 by omega),wC0,zay hn,zab hn,zhA (h.va.2 _ (List.getElem_mem hn)) (show 4≤10000 by omega),zr3,zay hl,zaC hl,zaC hn]
theorem zcW {p:Proto}(h:Ok10 p) (m:Msg) (hn:U32 (Msg.Num m)) (hv:U32 (Msg.Val m)):∃ q e,zak (Proto.Pool p) m=some (q,e)∧zaT p m=some (Proto.mk (Proto.State p) (Proto.Val p) (Proto.Wait p) (Proto.Home p) (Proto.Dir p) (Proto.Busy p) q)∧ze4 q:=by
 obtain ⟨q,e,h1,h2,h3⟩:=zxB (Proto.Pool p) h.po m hn hv
 refine ⟨q,e,h1,?_,h3⟩
 unfold zaT
 rw [h2]
 rfl
def zeP (p:Proto) (n line:Int):Bool:=zeb p&&(zau n (List.length (Proto.Wait p):Int)&&zau line (List.length (Proto.Home p):Int))
theorem zjS {p:Proto}(hs:zdW p) (n line:Int):zbT p n line=some (zeP p n line):=by
 unfold zbT zeP
 rw [ze5 hs]
 cases zeb p
 ·rfl
 ·simp only [wC0,if_true,Bool.true_and]
  cases zau n (List.length (Proto.Wait p):Int)<;>rfl
theorem zgZ {p:Proto}(hs:zdW p) (n line:Int):zdZ p n line=some (zeP p n line):=by
 unfold zdZ zeP zau
 rw [zhm hs]
 cases zeb p
 ·rfl
 ·simp only [wC0,if_true,Bool.true_and]
  cases decide (0≤n)<;>cases decide (n<(List.length (Proto.Wait p):Int))<;>cases decide (0≤line)<;>rfl
end Go.Proofs.YtdfohlonacbelaaGreat
