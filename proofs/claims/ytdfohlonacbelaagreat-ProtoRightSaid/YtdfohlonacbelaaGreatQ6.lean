/- Want, Evict, Set, Get and Has: the program does what the document does. -/
import Derived.Test.YtdfohlonacbelaaGreatQ5
set_option linter.unusedSimpArgs false
set_option linter.unusedVariables false
namespace Go.Proofs.YtdfohlonacbelaaGreat
open Go.SX
structure R10 (p:Proto):Prop where
 c1:1≤(Proto.Wait p).length
 c4:(Proto.Wait p).length≤4
 h1:1≤(Proto.Home p).length
 h16:(Proto.Home p).length≤16
 st:(Proto.State p).length=(Proto.Wait p).length
 va:(Proto.Val p).length=(Proto.Wait p).length
 di:(Proto.Dir p).length=(Proto.Home p).length
 bu:(Proto.Busy p).length=(Proto.Home p).length
 sr:∀ n (h:n<(Proto.State p).length),((Proto.State p)[n]).length=(Proto.Home p).length
 vr:∀ n (h:n<(Proto.Val p).length),((Proto.Val p)[n]).length=(Proto.Home p).length
 po:zdD (Proto.Pool p)=true
 wt:∀ n (h:n<(Proto.Wait p).length),zq2 (Proto.Home p).length (Proto.Wait p)[n]=true
 sb:∀ n (h:n<(Proto.State p).length),((Proto.State p)[n]).all stB=true
 dm:∀ n (h:n<(Proto.Dir p).length),mayB (Proto.Dir p)[n] ((Proto.Wait p).length:Int)=true
 bb:∀ n (h:n<(Proto.Busy p).length),0≤(Proto.Busy p)[n]∧(Proto.Busy p)[n]≤((Proto.Wait p).length:Int)
theorem zbO {p:Proto}(h:zeb p=true):R10 p:=by
 unfold zeb at h
 simp only [wD0] at h
 obtain ⟨⟨hz,hr⟩,hp,hc,hl⟩:=h
 have z:=of_decide_eq_true hz
 obtain ⟨z1,z2,z3,z4,z5,z6,z7,z8⟩:=z
 rw [za5] at hr hc hl
 refine ⟨z1,z2,z3,z4,z5,z6,z7,z8,fun n hn=>?_,fun n hn=>?_,hp,fun n hn=>?_,fun n hn=>?_,fun n hn=>?_,fun n hn=>?_⟩
 ·have:=hr n (by omega)
  unfold rowB zeX at this
  rw [wD0,wF0 hn] at this
  exact of_decide_eq_true this.1
 ·have:=hr n (by omega)
  unfold rowB zwb at this
  rw [wD0,wF0 hn] at this
  exact of_decide_eq_true this.2
 ·have:=hc n (by omega)
  unfold zmN at this
  rw [wD0,zbd hn] at this
  exact this.1
 ·have:=hc n (by omega)
  unfold zmN zeX at this
  rw [wD0,wF0 hn] at this
  exact this.2
 ·have:=hl n (by omega)
  unfold zra at this
  rw [wD0,zbd hn] at this
  exact this.1
 ·have:=hl n (by omega)
  unfold zra at this
  rw [wD0,zbd hn] at this
  have:=this.2
  simpa using this
theorem zhx {p:Proto}{n line:Int}(h:zeP p n line=true):zeb p=true∧∃ a b:Nat,n=(a:Int)∧line=(b:Int)∧a<(Proto.Wait p).length∧b<(Proto.Home p).length:=by
 unfold zeP zau at h
 simp only [wD0,decide_eq_true_eq] at h
 exact ⟨h.1,n.toNat,line.toNat,by omega,by omega,by omega,by omega⟩
theorem zye {p:Proto}{a b:Nat}(h:zeb p=true) (ha:a<(Proto.Wait p).length) (hb:b<(Proto.Home p).length):zeP p (a:Int) (b:Int)=true:=by
 unfold zeP zau
 simp only [wD0,decide_eq_true_eq]
 exact ⟨h,⟨by omega,by omega⟩,by omega,by omega⟩
theorem zmh {p:Proto}(hs:zdW p) (hr:zeb p=true) {a b:Nat}(ha:a<(Proto.Wait p).length) (hb:b<(Proto.Home p).length) (w:Bool):∃ v,zd6 p (a:Int) (b:Int) w=some v∧zdy p (a:Int) (b:Int) w=some v:=by
 have R:=zbO hr
 have h1:a<(Proto.State p).length:=by rw [R.st];exact ha
 have h2:b<(Proto.State p)[a].length:=by rw [R.sr];exact hb
 unfold zd6 zdy
 simp only [zgZ hs,zye hr ha hb,zab h1,zab h2,zab ha,wC0,wH0,wA0,if_false]
 by_cases hl:Wait.Line (Proto.Wait p)[a]=w64 ((b:Int) + 1)
 ·simp only [hl,decide_true,if_true]
  exact ⟨_,rfl,rfl⟩
 ·simp only [hl,decide_false,if_false,wA0]
  cases w
  ·refine ⟨_,rfl,?_⟩
   generalize (Proto.State p)[a][b]=s
   by_cases s0:s=0
   ·subst s0;rfl
   ·by_cases s2:s=2
    ·subst s2;rfl
    ·by_cases s3:s=3
     ·subst s3;rfl
     ·simp [s0,s2,s3]
  ·refine ⟨_,rfl,?_⟩
   simp
theorem zxN {p:Proto}(hs:zdW p) {n line:Int}(h:zeP p n line=false) (w:Bool):zdy p n line w=some false:=by
 unfold zdy
 simp only [zgZ hs,h,wC0,Bool.not_false,if_true]
theorem zym {p:Proto}(hs:zdW p) (n line:Int) (w:Bool):∃ v,zjJ p n line w=some v∧zdy p n line w=some v:=by
 unfold zjJ
 simp only [zjS hs,wC0]
 cases ht:zeP p n line
 ·exact ⟨false,by simp,zxN hs ht w⟩
 ·obtain ⟨hr,a,b,rfl,rfl,ha,hb⟩:=zhx ht
  obtain ⟨v,h1,h2⟩:=zmh hs hr ha hb w
  exact ⟨v,by simp [h1],h2⟩
theorem zx6 {p:Proto}(h:Ok10 p):zai (zdg (Proto.State p) (List.length (Proto.State p):Int)) ((0:Int),([]:List (List Int)))=some (Proto.State p):=zoG (b:=8) (fun _=>rfl) (by omega) h.st.1 h.st.2
theorem zyg {p:Proto}(h:Ok10 p):zai (zdm (Proto.Val p) (List.length (Proto.Val p):Int)) ((0:Int),([]:List (List Int)))=some (Proto.Val p):=zoG (b:=4) (fun _=>rfl) (by omega) h.va.1 h.va.2
theorem zyo {p:Proto}(h:Ok10 p):zai (zdt (Proto.Dir p) (List.length (Proto.Dir p):Int)) ((0:Int),([]:List Entry))=some (Proto.Dir p):=zxY (fun _=>rfl) h.di.1 h.di.2
theorem zyf {p:Proto}(h:Ok10 p):zai (zdp (Pool.Frames (Proto.Pool p)) (List.length (Pool.Frames (Proto.Pool p)):Int)) ((0:Int),([]:List (List Int)))=some (Pool.Frames (Proto.Pool p)):=zoG (b:=1) (fun _=>rfl) (by omega) h.po.1 (fun r hr=>(h.po.2 r hr).1)
theorem e4:zib=zdg:=rfl
theorem e3:zij=zdm:=rfl
theorem e2:zif=zdt:=rfl
theorem e1:zid=zdp:=rfl
theorem d5:zdB=zdg:=rfl
theorem d4:zdG=zdm:=rfl
theorem d3:zdH=zdt:=rfl
theorem d2:zdx=zdp:=rfl
theorem zqq {p:Proto}(h:Ok10 p):zaD 40 (Proto.Wait p)=some (Proto.Wait p):=zbN (by have:=h.wa;omega) (by omega)
theorem zqH {p:Proto}(h:Ok10 p):zaD 4 (Proto.Home p)=some (Proto.Home p):=zbN (by have:=h.ho;omega) (by omega)
theorem zqM {p:Proto}(h:Ok10 p):zaD 8 (Proto.Busy p)=some (Proto.Busy p):=zbN (by have:=h.bu;omega) (by omega)
theorem zej {p:Proto}(h:Ok10 p) {n:Nat}(hn:n<(Proto.State p).length) (l:Nat) (s:Int):Ok10 (Proto.mk ((Proto.State p).set n ((Proto.State p)[n].set l s)) (Proto.Val p) (Proto.Wait p) (Proto.Home p) (Proto.Dir p) (Proto.Busy p) (Proto.Pool p)) :=
 {h with
  st:=⟨by show ((Proto.State p).set n _).length≤1000;rw [List.length_set];exact h.st.1,fun r hr=>by
   rcases List.mem_or_eq_of_mem_set hr with q|q
   ·exact h.st.2 r q
   ·rw [q,List.length_set];exact h.st.2 _ (List.getElem_mem hn)⟩ }
theorem zxk {p:Proto}(h:Ok10 p) {n:Nat}(hn:n<(Proto.Val p).length) (l:Nat) {s:Int}(hs:U32 s):Ok10 (Proto.mk (Proto.State p) ((Proto.Val p).set n ((Proto.Val p)[n].set l s)) (Proto.Wait p) (Proto.Home p) (Proto.Dir p) (Proto.Busy p) (Proto.Pool p)) :=
 {h with
  va:=⟨by show ((Proto.Val p).set n _).length≤1000;rw [List.length_set];exact h.va.1,fun r hr=>by
   rcases List.mem_or_eq_of_mem_set hr with q|q
   ·exact h.va.2 r q
   ·rw [q,List.length_set];exact h.va.2 _ (List.getElem_mem hn)⟩
  vw:=fun r hr x hx=>by
   rcases List.mem_or_eq_of_mem_set hr with q|q
   ·exact h.vw r q x hx
   ·rw [q] at hx
    rcases List.mem_or_eq_of_mem_set hx with q2|q2
    ·exact h.vw _ (List.getElem_mem hn) x q2
    ·rw [q2];exact hs }
theorem zf7 {p:Proto}(h:Ok10 p) (n:Nat) {w:Wait}(hw:U32 (Wait.Val w)):Ok10 (Proto.mk (Proto.State p) (Proto.Val p) ((Proto.Wait p).set n w) (Proto.Home p) (Proto.Dir p) (Proto.Busy p) (Proto.Pool p)) :=
 {h with
  wa:=by show ((Proto.Wait p).set n _).length≤1000;rw [List.length_set];exact h.wa
  ww:=fun r hr=>by
   rcases List.mem_or_eq_of_mem_set hr with q|q
   ·exact h.ww r q
   ·rw [q];exact hw }
theorem zyx {p:Proto}(h:Ok10 p) (n:Nat) {w:Int}(hw:U32 w):Ok10 (Proto.mk (Proto.State p) (Proto.Val p) (Proto.Wait p) ((Proto.Home p).set n w) (Proto.Dir p) (Proto.Busy p) (Proto.Pool p)) :=
 {h with
  ho:=by show ((Proto.Home p).set n _).length≤1000;rw [List.length_set];exact h.ho
  hw:=fun r hr=>by
   rcases List.mem_or_eq_of_mem_set hr with q|q
   ·exact h.hw r q
   ·rw [q];exact hw }
theorem zxW {p:Proto}(h:Ok10 p) (n:Nat) {w:Entry}(hw:(Entry.Share w).length≤1000):Ok10 (Proto.mk (Proto.State p) (Proto.Val p) (Proto.Wait p) (Proto.Home p) ((Proto.Dir p).set n w) (Proto.Busy p) (Proto.Pool p)) :=
 {h with
  di:=⟨by show ((Proto.Dir p).set n _).length≤1000;rw [List.length_set];exact h.di.1,fun r hr=>by
   rcases List.mem_or_eq_of_mem_set hr with q|q
   ·exact h.di.2 r q
   ·rw [q];exact hw⟩ }
theorem zu3 {p:Proto}(h:Ok10 p) (n:Nat) (w:Int):Ok10 (Proto.mk (Proto.State p) (Proto.Val p) (Proto.Wait p) (Proto.Home p) (Proto.Dir p) ((Proto.Busy p).set n w) (Proto.Pool p)) :=
 { h with bu:=by show ((Proto.Busy p).set n _).length≤1000;rw [List.length_set];exact h.bu }
theorem zbv {p:Proto}(h:Ok10 p) {q:Pool}(hq:ze4 q):Ok10 (Proto.mk (Proto.State p) (Proto.Val p) (Proto.Wait p) (Proto.Home p) (Proto.Dir p) (Proto.Busy p) q):={ h with po:=hq }
theorem zx8 {p:Proto}(h:Ok10 p) (hs:zdW p) (n line v:Int) (hv:U32 v):∃ q e,zjV p n line v=some (q,e)∧zqN p n line v=some (q,e)∧Ok10 q:=by
 unfold zjV zqN
 simp only [zx6 h,zyg h,zyo h,zyf h,zqq h,zqH h,zqM h,zjS hs,zgZ hs,wC0]
 cases ht:zeP p n line
 ·exact ⟨_,_,rfl,rfl,h⟩
 obtain ⟨hr,a,b,rfl,rfl,ha,hb⟩:=zhx ht
 have R:=zbO hr
 obtain ⟨w,h1,h2⟩:=zmh hs hr ha hb true
 simp only [h1,h2,wC0,wH0,wA0,if_false]
 cases w
 ·exact ⟨_,_,rfl,rfl,h⟩
 have hst:a<(Proto.State p).length:=by rw [R.st];exact ha
 have hsl:b<(Proto.State p)[a].length:=by rw [R.sr];exact hb
 have hva:a<(Proto.Val p).length:=by rw [R.va];exact ha
 have hvl:b<(Proto.Val p)[a].length:=by rw [R.vr];exact hb
 have g1:=zxk h hva b hv
 simp only [wH0,wA0,if_false,zyS h hva hvl,wC0]
 rw [zf8 (p:=Proto.mk (Proto.State p) ((Proto.Val p).set a ((Proto.Val p)[a].set b v)) (Proto.Wait p) (Proto.Home p) (Proto.Dir p) (Proto.Busy p) (Proto.Pool p)) g1 (n:=a) (l:=b) hst hsl]
 refine ⟨_,_,?_,rfl,zej g1 hst b 3⟩
 simp only [zay hva,zay hst,zay hvl,zay hsl,zab hva,zab hst,zaC hvl,zaC hsl,zaC hva,zaC hst,wC0]
 rfl
theorem zz1 {p:Proto}(hs:zdW p) (n line:Int):(∃ a b:Nat,∃ (ha:a<(Proto.Val p).length) (hb:b<(Proto.Val p)[a].length),n=(a:Int)∧line=(b:Int)∧zdy p n line false=some true∧zfy p n line=some ((Proto.Val p)[a][b],0))∨(zdy p n line false=some false∧(zfy p n line=some (0,1)∨zfy p n line=some (0,8))):=by
 unfold zfy
 simp only [zjS hs,wC0]
 cases ht:zeP p n line
 ·exact .inr ⟨zxN hs ht false,.inl rfl⟩
 obtain ⟨hr,a,b,rfl,rfl,ha,hb⟩:=zhx ht
 have R:=zbO hr
 obtain ⟨w,h1,h2⟩:=zmh hs hr ha hb false
 simp only [h1,wC0,wH0,wA0,if_false]
 cases w
 ·exact .inr ⟨h2,.inr rfl⟩
 have hva:a<(Proto.Val p).length:=by rw [R.va];exact ha
 have hvl:b<(Proto.Val p)[a].length:=by rw [R.vr];exact hb
 exact .inl ⟨a,b,hva,hvl,rfl,rfl,h2,by simp only [wH0,wA0,if_false,zab hva,zab hvl,wC0]⟩
end Go.Proofs.YtdfohlonacbelaaGreat
