/- The law ProtoComes on typed data. No condition. -/
import Derived.Test.YtlgjbfdojbmmgaaS3
set_option linter.unusedSimpArgs false
set_option linter.unusedVariables false
set_option maxRecDepth 100000
namespace Go.Proofs.Ytlgjbfdojbmmgaa
open Go.SX
theorem zv8 {a:Int}(h0:0≤a) (h1:a<256):∃ k:Nat,1≤k∧k≤4∧remO a (4:Int)=some ((k:Int) - 1)∧w64 (w64 ((k:Int) - 1) + 1)=(k:Int):=by
 have r:=zn4 (a:=a) (n:=4) h0 (by omega)
 refine ⟨(a % 4).toNat + 1,by omega,by omega,?_,?_⟩
 ·rw [r.1];exact congrArg some (by omega)
 ·rw [zcf (n:=_ - 1) (by omega) (by omega),zcf (by omega) (by omega)];omega
section
variable {c h:Nat}
theorem ztE {A:Nat→AL}{W:Nat→Wait}{v:Nat→Int}(K:Ok c h A W [] v) (h4:h≤4) {n l:Nat}(hn:n<c) (hl:l<h) (w:Bool) (q:hasF (fun n l=>((A l).st n:Int)) W n l w=false) :
  ∃ A' W' ms' A2 W2,zbx (pr c h A W []) (n:Int) (l:Int) w=some (pr c h A' W' ms',0)∧zee (pr c h A' W' ms')=some (pr c h A2 W2 [],true)∧Ok c h A2 W2 [] v∧hasF (fun n l=>((A2 l).st n:Int)) W2 n l w=true:=by
 rcases zug K hn hl w with ⟨_,r|r⟩|⟨_,r⟩|⟨m,e,ok,_⟩
 ·rw [K.rest hn] at r
  exact absurd r (by decide)
 ·rw [q] at r;cases r
 ·cases r
 obtain ⟨A2,W2,e2,ok2,p1,p2⟩:=znk ok h4 (fun A=>(∀ j,j<h→j≠l→Qu (A j))∧Gk n (if w=true then 2 else 1) (A l)) (fun A W ms j B K hj ev p=>by
  by_cases r:j=l
  ·subst r
   refine ⟨fun i hi hne=>by rw [zbd hne];exact p.1 i hi hne,?_⟩
   rw [zad]
   exact zxo (K.lv j hj).iv (by cases w<;>simp) p.2 ev
  ·exact ((p.1 j hj r).no ev).elim) ⟨fun j hj hne=>by rw [zbd hne];exact K.qu hj,by
  rw [zad]
  refine ⟨fun i hi=>?_,.inl zad⟩
  show up (A l).wk n _ i=0
  rw [zbd hi]
  exact (K.qu hl).wk i⟩
 refine ⟨_,_,_,A2,W2,e,e2,ok2,?_⟩
 have hw:=(ok2.qu hl).wk n
 rcases p2.2 with r|⟨_,r1,r2,_⟩
 ·rw [hw] at r
  cases w<;>cases r
 unfold hasF
 rw [ok2.rest hn,vD0 (show ¬ Wait.Line w00=(l:Int) + 1 by show ¬ (0:Int)=(l:Int) + 1;omega),vH0,vB1]
 cases w
 ·simp only [wA0,if_false,Bool.not_eq_true',decide_eq_false_iff_not]
  omega
 ·have:=r2 rfl
  simp only [if_true,this]
  rfl
end
end Go.Proofs.Ytlgjbfdojbmmgaa
