/- Acts keep what always holds; who has a line. No condition. -/
import Derived.Test.YtlgjbfdojbmmgaaRO
set_option linter.unusedSimpArgs false
set_option linter.unusedVariables false
set_option maxRecDepth 100000
namespace Go.Proofs.Ytlgjbfdojbmmgaa
open Go.SX
theorem zA5 {a:Int}(h0:0≤a) (h1:a<256) {n:Nat}(hn:0<n):∃ k:Nat,k<n∧a % (n:Int)=(k:Int)∧zAj (w64 a) (n:Int)=some (k:Int):=by
 have r:=(zq1 (a:=a) (n:=(n:Int)) h0 (by omega))
 have h2:=Int.emod_nonneg a (show (n:Int)≠0 by omega)
 have h3:=Int.emod_lt_of_pos a (show (0:Int)<n by omega)
 refine ⟨(a % (n:Int)).toNat,by omega,by omega,?_⟩
 rw [zcu (by omega) (by omega),r.1]
 exact congrArg some (by omega)
section
variable {c h:Nat} {A:Nat→AL} {W:Nat→Wait} {ms:List Msg} {v:Nat→Int}
theorem zsU (K:Ok c h A W ms v) {k:Nat}(hk:k<ms.length∨k=0):∃ A' W' ms' e,zax (pr c h A W ms) (k:Int)=some (pr c h A' W' ms',e)∧Ok c h A' W' ms' v:=by
 by_cases q:k<ms.length
 ·by_cases r:ms.length + c≤64
  ·obtain ⟨l,B,W',new,_,_,e,ok,_⟩:=step K q r
   exact ⟨_,_,_,_,e,ok⟩
  ·exact ⟨A,W,ms,6,(zfU (V:=fun n l=>(A l).va n) (H:=fun l=>(A l).ho) K.fit K.mo q _ rfl).1 (by omega),K⟩
 ·exact ⟨A,W,ms,7,zpL (V:=fun n l=>(A l).va n) (H:=fun l=>(A l).ho) K.fit (.inr (by omega)),K⟩
theorem zq2:Proto.Wait (pr c h A W ms)=ls c W:=rfl
theorem zou:Proto.Home (pr c h A W ms)=ls h fun l=>(A l).ho:=rfl
theorem zms:Proto.Pool (pr c h A W ms)=pl ms:=rfl
def zxE (a:l10_Act):Prop:=(0≤l10_Act.Kind a∧l10_Act.Kind a<256)∧(0≤l10_Act.N a∧l10_Act.N a<256)∧(0≤l10_Act.Line a∧l10_Act.Line a<256)∧(0≤l10_Act.At a∧l10_Act.At a<256)∧U32 (l10_Act.Val a)
theorem zmJ (K:Ok c h A W ms v) {n l:Nat}(hn:n<c) (hl:l<h) {w:Bool}(q:zz1 (fun n l=>((A l).st n:Int)) W n l w=true):(A l).wk n=0∧(A l).tk n=0∧(A l).st n≠0∧(w=true→(A l).st n=2∨(A l).st n=3):=by
 unfold zz1 at q
 rw [wD0,Bool.not_eq_true',decide_eq_false_iff_not] at q
 have hf:(A l).wk n=0:=by
  apply Classical.byContradiction
  intro r
  exact q.1 ((K.busy hn hl).1 r)
 have hq:=q.2
 refine ⟨hf,(K.lv l hl).iv.t0 n hf,?_,fun r=>?_⟩
 ·cases w
  ·simp only [wA0,if_false,Bool.not_eq_true',decide_eq_false_iff_not] at hq
   omega
  ·simp only [if_true,Bool.or_eq_true,vG0] at hq
   omega
 ·rw [if_pos r] at hq
  simp only [Bool.or_eq_true,vG0] at hq
  omega
theorem zxX (K:Ok c h A W ms v) {n l:Nat}(hn:n<c) (hl:l<h) {w:Bool}(q:zz1 (fun n l=>((A l).st n:Int)) W n l w=true):(A l).va n=v l:=by
 obtain ⟨f1,f2,f3,_⟩:=zmJ K hn hl q
 exact (K.lv l hl).iv.vv n f3 (by omega)
theorem zxY (K:Ok c h A W ms v) {n k l:Nat}(hn:n<c) (hk:k<c) (hl:l<h) {w:Bool}(q:zz1 (fun n l=>((A l).st n:Int)) W n l true=true) (r:zz1 (fun n l=>((A l).st n:Int)) W k l w=true):k=n:=by
 obtain ⟨f1,f2,f3,f4⟩:=zmJ K hn hl q
 obtain ⟨g1,g2,g3,_⟩:=zmJ K hk hl r
 apply Classical.byContradiction
 intro s
 have:=((K.lv l hl).iv.x1 n (f4 rfl) (by omega)).2.2 k
 have:=this.1 s
 omega
end
end Go.Proofs.Ytlgjbfdojbmmgaa
