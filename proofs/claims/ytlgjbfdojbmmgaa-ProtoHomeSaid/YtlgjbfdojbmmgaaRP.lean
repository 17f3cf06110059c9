/- Acts keep what always holds; who has a line. No condition. -/
import Derived.Test.YtlgjbfdojbmmgaaRO
set_option linter.unusedSimpArgs false
set_option linter.unusedVariables false
set_option maxRecDepth 100000
namespace Go.Proofs.Ytlgjbfdojbmmgaa
open Go.SX
theorem remN {a:Int}(h0:0≤a) (h1:a<256) {n:Nat}(hn:0<n):∃ k:Nat,k<n∧a % (n:Int)=(k:Int)∧remO (w64 a) (n:Int)=some (k:Int):=by
 have r:=(zn4 (a:=a) (n:=(n:Int)) h0 (by omega))
 have h2:=Int.emod_nonneg a (show (n:Int)≠0 by omega)
 have h3:=Int.emod_lt_of_pos a (show (0:Int)<n by omega)
 refine ⟨(a % (n:Int)).toNat,by omega,by omega,?_⟩
 rw [zcf (by omega) (by omega),r.1]
 exact congrArg some (by omega)
section
variable {c h:Nat} {A:Nat→AL} {W:Nat→Wait} {ms:List Msg} {v:Nat→Int}
theorem zsc (K:Ok c h A W ms v) {k:Nat}(hk:k<ms.length∨k=0):∃ A' W' ms' e,zaw (pr c h A W ms) (k:Int)=some (pr c h A' W' ms',e)∧Ok c h A' W' ms' v:=by
 by_cases q:k<ms.length
 ·by_cases r:ms.length + c≤64
  ·obtain ⟨l,B,W',new,_,_,e,ok,_⟩:=step K q r
   exact ⟨_,_,_,_,e,ok⟩
  ·exact ⟨A,W,ms,6,(ze8 (V:=fun n l=>(A l).va n) (H:=fun l=>(A l).ho) K.fit K.mo q _ rfl).1 (by omega),K⟩
 ·exact ⟨A,W,ms,7,zpg (V:=fun n l=>(A l).va n) (H:=fun l=>(A l).ho) K.fit (.inr (by omega)),K⟩
theorem znE:Proto.Wait (pr c h A W ms)=ls c W:=rfl
theorem zsY:Proto.Home (pr c h A W ms)=ls h fun l=>(A l).ho:=rfl
theorem zqN:Proto.Pool (pr c h A W ms)=pl ms:=rfl
def zwV (a:l10_Act):Prop:=(0≤l10_Act.Kind a∧l10_Act.Kind a<256)∧(0≤l10_Act.N a∧l10_Act.N a<256)∧(0≤l10_Act.Line a∧l10_Act.Line a<256)∧(0≤l10_Act.At a∧l10_Act.At a<256)∧U32 (l10_Act.Val a)
theorem zyo (K:Ok c h A W ms v) {a:l10_Act}(O:zwV a):∃ A' W' ms' e v',zrn (pr c h A W ms) a=some (pr c h A' W' ms',e)∧Ok c h A' W' ms' v'∧v'=if l10_Act.Kind a % 8=3∧e=0 then up v (l10_Act.Line a % (h:Int)).toNat (l10_Act.Val a) else v:=by
 obtain ⟨o1,o2,o3,o4,o5⟩:=O
 obtain ⟨n,n1,n2,n3⟩:=remN o2.1 o2.2 (show 0<c from K.c1)
 obtain ⟨l,l1,l2,l3⟩:=remN o3.1 o3.2 (show 0<h from K.h1)
 have r3:=(zn4 (a:=l10_Act.Kind a) (n:=8) o1.1 (by omega)).1
 unfold zrn
 simp only [znE,zsY,zqN,zaW,n3,l3,r3,zfF,wC0]
 by_cases k0:(bif decide (l10_Act.Kind a % 8=0) then decide (l10_Act.Kind a % 8=0) else decide (l10_Act.Kind a % 8=1))=true
 ·have hk:¬ (l10_Act.Kind a % 8=3):=fun q=>by rw [q] at k0;exact absurd k0 (by decide)
  simp only [k0,if_true]
  rcases zug K n1 l1 (l10_Act.Write a) with ⟨e,_⟩|⟨e,_⟩|⟨m,e,ok,_⟩
  ·exact ⟨A,W,ms,8,v,by rw [e];rfl,K,by rw [if_neg (fun q=>hk q.1)]⟩
  ·exact ⟨A,W,ms,6,v,by rw [e];rfl,K,by rw [if_neg (fun q=>hk q.1)]⟩
  ·exact ⟨_,_,_,0,v,by rw [e];rfl,ok,by rw [if_neg (fun q=>hk q.1)]⟩
 simp only [k0,if_false]
 by_cases k2:l10_Act.Kind a % 8=2
 ·simp only [k2,vE0,if_true]
  rcases zrx K n1 l1 with ⟨x,e,_⟩|⟨e,ok,_⟩|⟨m,e,ok,_⟩
  ·exact ⟨A,W,ms,x,v,by rw [e];rfl,K,by rw [if_neg (fun q=>by omega)]⟩
  ·exact ⟨_,_,_,0,v,by rw [e];rfl,ok,by rw [if_neg (fun q=>by omega)]⟩
  ·exact ⟨_,_,_,0,v,by rw [e];rfl,ok,by rw [if_neg (fun q=>by omega)]⟩
 simp only [k2,vF0,wA0,if_false]
 by_cases k3:l10_Act.Kind a % 8=3
 ·simp only [k3,vE0,if_true,true_and]
  rcases zxZ K n1 l1 o5 with e|⟨e,ok⟩
  ·exact ⟨A,W,ms,8,v,by rw [e];rfl,K,rfl⟩
  ·exact ⟨_,_,_,0,_,by rw [e];rfl,ok,by rw [if_pos rfl,l2];rfl⟩
 simp only [k3,vF0,wA0,if_false,false_and]
 obtain ⟨i,hi,hb⟩:∃ i:Nat,(if decide ((0:Int)<(ms.length:Int))=true then (remO (w64 (l10_Act.At a)) (ms.length:Int)).bind fun v27=>some v27 else some (0:Int))=some (i:Int)∧(i<ms.length∨i=0):=by
  by_cases k:(0:Int)<(ms.length:Int)
  ·obtain ⟨i,i1,i2,i3⟩:=remN o4.1 o4.2 (n:=ms.length) (by omega)
   exact ⟨i,by rw [if_pos (vC0 k),i3];rfl,.inl i1⟩
  ·exact ⟨0,by rw [if_neg (by rw [vG0];exact k)];rfl,.inr rfl⟩
 obtain ⟨A',W',ms',e,d,ok⟩:=zsc K hb
 exact ⟨A',W',ms',e,v,by rw [hi];simp only [wC0,d],ok,rfl⟩
theorem zui (K:Ok c h A W ms v) {n l:Nat}(hn:n<c) (hl:l<h) {w:Bool}(q:hasF (fun n l=>((A l).st n:Int)) W n l w=true):(A l).wk n=0∧(A l).tk n=0∧(A l).st n≠0∧(w=true→(A l).st n=2∨(A l).st n=3):=by
 unfold hasF at q
 rw [wD0,Bool.not_eq_true',decide_eq_false_iff_not] at q
 have hf:(A l).wk n=0:=by
  apply Classical.byContradiction
  intro r
  exact q.1 ((K.busy hn hl).1 r)
 have hq:=q.2
 refine ⟨hf,(K.lv l hl).iv.t0 n hf,?_,fun r=>?_⟩
 ·cases w
  ·simp only [wA0,if_false,Bool.not_eq_true',decide_eq_false_iff_not] at hq
   omega
  ·simp only [if_true,Bool.or_eq_true,vG0] at hq
   omega
 ·rw [if_pos r] at hq
  simp only [Bool.or_eq_true,vG0] at hq
  omega
theorem zxt (K:Ok c h A W ms v) {n l:Nat}(hn:n<c) (hl:l<h) {w:Bool}(q:hasF (fun n l=>((A l).st n:Int)) W n l w=true):(A l).va n=v l:=by
 obtain ⟨f1,f2,f3,_⟩:=zui K hn hl q
 exact (K.lv l hl).iv.vv n f3 (by omega)
end
end Go.Proofs.Ytlgjbfdojbmmgaa
