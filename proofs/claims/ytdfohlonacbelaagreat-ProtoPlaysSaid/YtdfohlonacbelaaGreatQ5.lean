import Derived.Test.YtdfohlonacbelaaGreatQ4
set_option linter.unusedSimpArgs false
set_option linter.unusedVariables false
namespace Go.Proofs.YtdfohlonacbelaaGreat
open Go.SX
theorem znN {b:Nat}{f:(Int×(List (List Int)))→Option ((Int×(List (List Int)))⊕(List (List Int)))}{l:List (List Int)}(hf:∀ s,f s=(if decide (s.1<(List.length l:Int)) then
  (zAF l s.1).bind fun v10 =>
  (zaC b v10).bind fun v11 =>
  (zAK 24 s.2 ([v11]:List (List Int))).bind fun v13 =>
  some (Sum.inl (w64 (s.1 + (1:Int)),v13))
 else
  some (Sum.inr (s.2)))) (hb:b≤10000) (hl:l.length≤1000) (hr:∀ r∈l,r.length≤1000):zaf f ((0:Int),([]:List (List Int)))=some l:=by
 have lp:=zaF (f:=f) (n:=l.length) (e:=l) (fun i=>((i:Int),l.take i)) (fun i hi=>by
  have hlt:(i:Int)<(List.length l:Int):=by omega
  have hbi:=hr _ (List.getElem_mem hi)
  have hc:zaC b l[i]=some l[i]:=zbx (by omega) hb
  have ha:zAK 24 (l.take i) ([l[i]]:List (List Int))=some (l.take (i + 1)):=by
   rw [za2 (by simp;omega) (by omega),zaY hi]
  rw [hf]
  simp only [hlt,vE0,if_true,zac hi,wC0,hc,ha,zas (show i<4611686018427387904 by omega)]) (by
  rw [hf]
  simp only [show ¬ (l.length:Int)<(List.length l:Int) by omega,vF0,wA0,if_false,List.take_length])
 exact lp
theorem zxl {f:(Int×(List Entry))→Option ((Int×(List Entry))⊕(List Entry))}{l:List Entry}(hf:∀ s,f s=(if decide (s.1<(List.length l:Int)) then
  (zAF l s.1).bind fun v25 =>
  (zaC 1 (Entry.Share v25)).bind fun v28 =>
  (zAK 32 s.2 ([Entry.mk (Entry.Owner v25) v28]:List Entry)).bind fun v31 =>
  some (Sum.inl (w64 (s.1 + (1:Int)),v31))
 else
  some (Sum.inr (s.2)))) (hl:l.length≤1000) (hr:∀ r∈l,(Entry.Share r).length≤1000):zaf f ((0:Int),([]:List Entry))=some l:=by
 have lp:=zaF (f:=f) (n:=l.length) (e:=l) (fun i=>((i:Int),l.take i)) (fun i hi=>by
  have hlt:(i:Int)<(List.length l:Int):=by omega
  have hbi:=hr _ (List.getElem_mem hi)
  have hc:zaC 1 (Entry.Share l[i])=some (Entry.Share l[i]):=zbx (by omega) (by omega)
  have he:Entry.mk (Entry.Owner l[i]) (Entry.Share l[i])=l[i]:=rfl
  have ha:zAK 32 (l.take i) ([l[i]]:List Entry)=some (l.take (i + 1)):=by
   rw [za2 (by simp;omega) (by omega),zaY hi]
  rw [hf]
  simp only [hlt,vE0,if_true,zac hi,wC0,hc,he,ha,zas (show i<4611686018427387904 by omega)]) (by
  rw [hf]
  simp only [show ¬ (l.length:Int)<(List.length l:Int) by omega,vF0,wA0,if_false,List.take_length])
 exact lp
def U32 (x:Int):Prop:=0≤x∧x<4294967296
structure R10 (p:Proto):Prop where
 c1:1≤(Proto.Wait p).length
 c4:(Proto.Wait p).length≤4
 h1:1≤(Proto.Home p).length
 h16:(Proto.Home p).length≤16
 st:(Proto.State p).length=(Proto.Wait p).length
 va:(Proto.Val p).length=(Proto.Wait p).length
 di:(Proto.Dir p).length=(Proto.Home p).length
 bu:(Proto.Busy p).length=(Proto.Home p).length
 sr:∀ n (h:n<(Proto.State p).length),((Proto.State p)[n]).length=(Proto.Home p).length
 vr:∀ n (h:n<(Proto.Val p).length),((Proto.Val p)[n]).length=(Proto.Home p).length
 po:zcg (Proto.Pool p)=true
 wt:∀ n (h:n<(Proto.Wait p).length),zdC (Proto.Home p).length (Proto.Wait p)[n]=true
 sb:∀ n (h:n<(Proto.State p).length),((Proto.State p)[n]).all stB=true
 dm:∀ n (h:n<(Proto.Dir p).length),zAP (Proto.Dir p)[n] ((Proto.Wait p).length:Int)=true
 bb:∀ n (h:n<(Proto.Busy p).length),0≤(Proto.Busy p)[n]∧(Proto.Busy p)[n]≤((Proto.Wait p).length:Int)
theorem zcm {p:Proto}(h:zds p=true):R10 p:=by
 unfold zds at h
 simp only [wD0] at h
 obtain ⟨⟨hz,hr⟩,hp,hc,hl⟩:=h
 have z:=of_decide_eq_true hz
 obtain ⟨z1,z2,z3,z4,z5,z6,z7,z8⟩:=z
 rw [zaQ] at hr hc hl
 refine ⟨z1,z2,z3,z4,z5,z6,z7,z8,fun n hn=>?_,fun n hn=>?_,hp,fun n hn=>?_,fun n hn=>?_,fun n hn=>?_,fun n hn=>?_⟩
 ·have:=hr n (by omega)
  unfold zA9 zdE at this
  rw [wD0,wF0 hn] at this
  exact of_decide_eq_true this.1
 ·have:=hr n (by omega)
  unfold zA9 zus at this
  rw [wD0,wF0 hn] at this
  exact of_decide_eq_true this.2
 ·have:=hc n (by omega)
  unfold zmi at this
  rw [wD0,zbm hn] at this
  exact this.1
 ·have:=hc n (by omega)
  unfold zmi zdE at this
  rw [wD0,wF0 hn] at this
  exact this.2
 ·have:=hl n (by omega)
  unfold zpi at this
  rw [wD0,zbm hn] at this
  exact this.1
 ·have:=hl n (by omega)
  unfold zpi at this
  rw [wD0,zbm hn] at this
  have:=this.2
  simpa using this
theorem zy7 {p:Proto}(R:R10 p):zds p=true:=by
 unfold zds
 simp only [wD0]
 refine ⟨⟨vC0 ⟨R.c1,R.c4,R.h1,R.h16,R.st,R.va,R.di,R.bu⟩,zaQ.2 fun n hn=>?_⟩,R.po,zaQ.2 fun n hn=>?_,zaQ.2 fun n hn=>?_⟩
 ·have h1:n<(Proto.State p).length:=by rw [R.st];exact hn
  have h2:n<(Proto.Val p).length:=by rw [R.va];exact hn
  unfold zA9 zdE zus
  rw [wF0 h1,wF0 h2,wD0]
  exact ⟨vC0 (R.sr n h1),vC0 (R.vr n h2)⟩
 ·have h1:n<(Proto.State p).length:=by rw [R.st];exact hn
  unfold zmi zdE
  rw [zbm hn,wF0 h1,wD0]
  exact ⟨R.wt n hn,R.sb n h1⟩
 ·have h1:n<(Proto.Dir p).length:=by rw [R.di];exact hn
  have h2:n<(Proto.Busy p).length:=by rw [R.bu];exact hn
  unfold zpi
  rw [zbm h1,zbm h2,wD0]
  refine ⟨R.dm n h1,?_⟩
  have:=R.bb n h2
  simp only [wD0,vG0]
  exact this
def GP (F:Prop) (q:Pool):Prop:=zg9 q∧(F→zcg q=true)
structure zAM (F:Prop) (p:Proto):Prop where
 st:(Proto.State p).length≤1000∧∀ r∈Proto.State p,r.length≤1000
 va:(Proto.Val p).length≤1000∧∀ r∈Proto.Val p,r.length≤1000
 vw:∀ r∈Proto.Val p,∀ x∈r,U32 x
 wa:(Proto.Wait p).length≤1000
 ww:∀ w∈Proto.Wait p,U32 (Wait.Val w)
 ho:(Proto.Home p).length≤1000
 hw:∀ x∈Proto.Home p,U32 x
 di:(Proto.Dir p).length≤1000∧∀ e∈Proto.Dir p,(Entry.Share e).length≤1000
 bu:(Proto.Busy p).length≤1000
 po:zg9 (Proto.Pool p)
 rt:F→R10 p
theorem zpl {l:List Int}(hl:l.length≤1000):zke l l=some true:=zos l (by omega)
theorem zjV {f:Int→Option (Int⊕Unit⊕Bool)}{n:Nat}(hn:n≤1000) (step:∀ i:Nat,i<n→i<1000→f (i:Int)=some (.inl ((i + 1:Nat):Int))) (out:f (n:Int)=some (.inr (.inl ()))):zaf f (0:Int)=some (Sum.inl ()):=by
 have lp:=zaF (f:=f) (n:=n) (e:=(Sum.inl ():Unit⊕Bool)) (fun i=>(i:Int)) (fun i hi=>step i hi (by omega)) out
 exact lp
theorem zmW {F:Prop}{p:Proto}(h:zAM F p):zj4 p p=some true:=by
 have l1:=zjV (f:=zgv p p) h.di.1 (fun i hi hk=>by
  unfold zgv
  have:=h.di.2 _ (List.getElem_mem hi)
  simp only [show (i:Int)<(List.length (Proto.Dir p):Int) by omega,vE0,if_true,zac hi,wC0,zxS _ (show (((Entry.Share (Proto.Dir p)[i]).length:Nat):Int)≤9223372036854775807 by omega),wH0,wA0,if_false,zas (show i<4611686018427387904 by omega)]) (by
  unfold zgv
  simp only [show ¬ (List.length (Proto.Dir p):Int)<(List.length (Proto.Dir p):Int) by omega,vF0,wA0,if_false])
 have l2:=zjV (f:=zf9 p p) h.va.1 (fun i hi hk=>by
  unfold zf9
  simp only [show (i:Int)<(List.length (Proto.Val p):Int) by omega,vE0,if_true,zac hi,wC0,zpl (h.va.2 _ (List.getElem_mem hi)),wH0,wA0,if_false,zas (show i<4611686018427387904 by omega)]) (by
  unfold zf9
  simp only [show ¬ (List.length (Proto.Val p):Int)<(List.length (Proto.Val p):Int) by omega,vF0,wA0,if_false])
 have l3:=zjV (f:=zf3 p p) h.st.1 (fun i hi hk=>by
  unfold zf3
  have:=h.st.2 _ (List.getElem_mem hi)
  simp only [show (i:Int)<(List.length (Proto.State p):Int) by omega,vE0,if_true,zac hi,wC0,zos _ (show (((Proto.State p)[i].length:Nat):Int)≤9223372036854775807 by omega),wH0,wA0,if_false,zas (show i<4611686018427387904 by omega)]) (by
  unfold zf3
  simp only [show ¬ (List.length (Proto.State p):Int)<(List.length (Proto.State p):Int) by omega,vF0,wA0,if_false])
 have l4:=zjV (f:=zf1 p p) h.wa (fun i hi hk=>by
  unfold zf1
  simp only [show (i:Int)<(List.length (Proto.Wait p):Int) by omega,vE0,if_true,zac hi,wC0,wH0,wA0,if_false,zas (show i<4611686018427387904 by omega)]) (by
  unfold zf1
  simp only [show ¬ (List.length (Proto.Wait p):Int)<(List.length (Proto.Wait p):Int) by omega,vF0,wA0,if_false])
 have hb:=h.bu
 unfold zj4
 simp only [vE0,wH0,wA0,if_false,zos _ (show (((Proto.Busy p).length:Nat):Int)≤9223372036854775807 by omega),zwK h.po,wC0,l1,l2,l3,l4,zai,zpl h.ho]
theorem zsx (a:Int):zBG a a=some a:=by simp [zBG]
theorem zg2 {α:Type}{b:Nat}{l:List α}(h:l.length≤1000) (hb:b≤10000):zAK b ([]:List α) l=some l:=by rw [za2 (by simp;omega) hb];rfl
theorem ziX {F:Prop}{p:Proto}(h:zAM F p) {n:Nat}(hn:n<(Proto.Wait p).length) (w:Wait):zc6 p (n:Int) w=some (Proto.mk (Proto.State p) (Proto.Val p) ((Proto.Wait p).set n w) (Proto.Home p) (Proto.Dir p) (Proto.Busy p) (Proto.Pool p)):=by
 unfold zc6
 simp only [zg2 h.wa (show 40≤10000 by omega),wC0,zaz hn,zaD hn]
theorem zzK {F:Prop}{p:Proto}(h:zAM F p) {n:Nat}(hn:n<(Proto.Home p).length) (w:Int):zmz p (n:Int) w=some (Proto.mk (Proto.State p) (Proto.Val p) (Proto.Wait p) ((Proto.Home p).set n w) (Proto.Dir p) (Proto.Busy p) (Proto.Pool p)):=by
 unfold zmz
 simp only [zg2 h.ho (show 4≤10000 by omega),wC0,zaz hn,zaD hn]
theorem zzz {F:Prop}{p:Proto}(h:zAM F p) {n:Nat}(hn:n<(Proto.Dir p).length) (w:Entry):zoa p (n:Int) w=some (Proto.mk (Proto.State p) (Proto.Val p) (Proto.Wait p) (Proto.Home p) ((Proto.Dir p).set n w) (Proto.Busy p) (Proto.Pool p)):=by
 unfold zoa
 simp only [zg2 h.di.1 (show 32≤10000 by omega),wC0,zaz hn,zaD hn]
theorem zwM {F:Prop}{p:Proto}(h:zAM F p) {n:Nat}(hn:n<(Proto.Busy p).length) (w:Int):zjM p (n:Int) w=some (Proto.mk (Proto.State p) (Proto.Val p) (Proto.Wait p) (Proto.Home p) (Proto.Dir p) ((Proto.Busy p).set n w) (Proto.Pool p)):=by
 unfold zjM
 simp only [zg2 h.bu (show 8≤10000 by omega),wC0,zaz hn,zaD hn]
theorem zgf {F:Prop}{p:Proto}(h:zAM F p) {n l:Nat}(hn:n<(Proto.State p).length) (hl:l<(Proto.State p)[n].length) (w:Int):zbO p (n:Int) (l:Int) w=some (Proto.mk ((Proto.State p).set n ((Proto.State p)[n].set l w)) (Proto.Val p) (Proto.Wait p) (Proto.Home p) (Proto.Dir p) (Proto.Busy p) (Proto.Pool p)):=by
 unfold zbO
 simp only [zg2 h.st.1 (show 24≤10000 by omega),wC0,zaz hn,zac hn,zg2 (h.st.2 _ (List.getElem_mem hn)) (show 8≤10000 by omega),zsx,zaz hl,zaD hl,zaD hn]
theorem zzp {F:Prop}{p:Proto}(h:zAM F p) {n l:Nat}(hn:n<(Proto.Val p).length) (hl:l<(Proto.Val p)[n].length) (w:Int):zkW p (n:Int) (l:Int) w=some (Proto.mk (Proto.State p) ((Proto.Val p).set n ((Proto.Val p)[n].set l w)) (Proto.Wait p) (Proto.Home p) (Proto.Dir p) (Proto.Busy p) (Proto.Pool p)):=by
 unfold zkW
 simp only [zg2 h.va.1 (show 24≤10000 by omega),wC0,zaz hn,zac hn,zg2 (h.va.2 _ (List.getElem_mem hn)) (show 4≤10000 by omega),zsx,zaz hl,zaD hl,zaD hn]
theorem zwr {p q:Pool}{m:Msg}{e:Int}(hp:zg9 p) (hn:U32 (Msg.Num m)) (hv:U32 (Msg.Val m)) (hr:zcg p=true) (h:zae p m=some (q,e)):zcg q=true:=by
 rcases zry p (zkU hp) m hn hv with ⟨x,hx,_,_,h64,hs⟩|⟨e',_,hs,_⟩
 ·rw [h] at hs
  have hq:q=Pool.mk (Pool.Frames p++[zal (zbc x)]):=congrArg Prod.fst (Option.some.inj hs)
  obtain ⟨i1,i2⟩:=zbK.1 hr
  rw [hq]
  refine zbK.2 ⟨?_,fun b hb=>?_⟩
  ·show (Pool.Frames p++[zal (zbc x)]).length≤64
   rw [wI0,List.length_singleton];omega
  ·rcases List.mem_append.1 (show b∈Pool.Frames p++[zal (zbc x)] from hb) with r|r
   ·exact i2 b r
   ·rw [List.mem_singleton.1 r,zax];exact (zf0 hx).len
 ·rw [h] at hs
  have hq:q=p:=congrArg Prod.fst (Option.some.inj hs)
  rw [hq];exact hr
theorem zcO {F:Prop}{p:Proto}(h:zAM F p) (m:Msg) (hn:U32 (Msg.Num m)) (hv:U32 (Msg.Val m)):∃ q e,zae (Proto.Pool p) m=some (q,e)∧zaZ p m=some (Proto.mk (Proto.State p) (Proto.Val p) (Proto.Wait p) (Proto.Home p) (Proto.Dir p) (Proto.Busy p) q)∧GP F q:=by
 obtain ⟨q,e,h1,h2,h3⟩:=zwQ (Proto.Pool p) h.po m hn hv
 refine ⟨q,e,h1,?_,h3,fun f=>zwr h.po hn hv (h.rt f).po h1⟩
 unfold zaZ
 rw [h2]
 rfl
def zgH (p:Proto) (n line:Int):Bool:=zds p&&(zav n (List.length (Proto.Wait p):Int)&&zav line (List.length (Proto.Home p):Int))
theorem zqp {p:Proto}(hs:zff p) (n line:Int):zc2 p n line=some (zgH p n line):=by
 unfold zc2 zgH
 rw [ze3 hs]
 cases zds p
 ·rfl
 ·simp only [wC0,if_true,vC1]
  cases zav n (List.length (Proto.Wait p):Int)<;>rfl
theorem zkp {p:Proto}(hs:zff p) (n line:Int):zet p n line=some (zgH p n line):=by
 unfold zet zgH zav
 rw [zlO hs]
 cases zds p
 ·rfl
 ·simp only [wC0,if_true,vC1]
  cases decide (0≤n)<;>cases decide (n<(List.length (Proto.Wait p):Int))<;>cases decide (0≤line)<;>rfl
end Go.Proofs.YtdfohlonacbelaaGreat
