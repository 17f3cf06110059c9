/- The law ProtoComes on typed data. No condition. -/
import Derived.Test.YtlgjbfdojbmmgaaS3
set_option linter.unusedSimpArgs false
set_option linter.unusedVariables false
set_option maxRecDepth 100000
namespace Go.Proofs.Ytlgjbfdojbmmgaa
open Go.SX
theorem zwv {a:Int}(h0:0≤a) (h1:a<256):∃ k:Nat,1≤k∧k≤4∧remO a (4:Int)=some ((k:Int) - 1)∧w64 (w64 ((k:Int) - 1) + 1)=(k:Int):=by
 have r:=zpY (a:=a) (n:=4) h0 (by omega)
 refine ⟨(a % 4).toNat + 1,by omega,by omega,?_,?_⟩
 ·rw [r.1];exact congrArg some (by omega)
 ·rw [zcq (n:=_ - 1) (by omega) (by omega),zcq (by omega) (by omega)];omega
section
variable {c h:Nat}
theorem zm1 {l:List l10_Act}(hl:∀ a∈l,zwU a):∀ (d i:Nat) {A:Nat→AL}{W:Nat→Wait}{ms:List Msg}{v:Nat→Int},Ok c h A W ms v→i + d=min l.length 100→∃ A' W' ms' v',zal (zaV l) ((i:Int),pr c h A W ms)=some (pr c h A' W' ms')∧Ok c h A' W' ms' v'
 | 0,i,A,W,ms,v,K,e=>by
  refine ⟨A,W,ms,v,zdr ?_,K⟩
  unfold zaV
  rw [if_neg (by simp only [wD0,decide_eq_true_eq];omega)]
 | d + 1,i,A,W,ms,v,K,e=>by
  have hi:i<l.length:=by omega
  obtain ⟨A',W',ms',x,v',q,ok,_⟩:=zyC K (hl _ (List.getElem_mem hi))
  have st:zaV l ((i:Int),pr c h A W ms)=some (Sum.inl (((i + 1:Nat):Int),pr c h A' W' ms')):=by
   unfold zaV
   simp only [show (i:Int)<(List.length l:Int) by omega,show (i:Int)<100 by omega,decide_true,Bool.and_self,if_true,zbx hi,wC0,q,zaH (show i<4611686018427387904 by omega)]
  rw [zkg,st]
  exact zm1 hl d (i + 1) ok (by omega)
theorem zs4 {A:Nat→AL}{W:Nat→Wait}{v:Nat→Int}(K:Ok c h A W [] v) (h4:h≤4) {n l:Nat}(hn:n<c) (hl:l<h) (w:Bool) (q:hasF (fun n l=>((A l).st n:Int)) W n l w=false) :
  ∃ A' W' ms' A2 W2,zbM (pr c h A W []) (n:Int) (l:Int) w=some (pr c h A' W' ms',0)∧zgv (pr c h A' W' ms')=some (pr c h A2 W2 [],true)∧Ok c h A2 W2 [] v∧hasF (fun n l=>((A2 l).st n:Int)) W2 n l w=true:=by
 rcases zsY K hn hl w with ⟨_,r|r⟩|⟨_,r⟩|⟨m,e,ok,_⟩
 ·rw [K.rest hn] at r
  exact absurd r (by decide)
 ·rw [q] at r;cases r
 ·cases r
 obtain ⟨A2,W2,e2,ok2,p1,p2⟩:=ztc ok h4 (fun A=>(∀ j,j<h→j≠l→Qu (A j))∧Gk n (if w=true then 2 else 1) (A l)) (fun A W ms j B K hj ev p=>by
  by_cases r:j=l
  ·subst r
   refine ⟨fun i hi hne=>by rw [zbu hne];exact p.1 i hi hne,?_⟩
   rw [zae]
   exact zxi (K.lv j hj).iv (by cases w<;>simp) p.2 ev
  ·exact ((p.1 j hj r).no ev).elim) ⟨fun j hj hne=>by rw [zbu hne];exact K.qu hj,by
  rw [zae]
  refine ⟨fun i hi=>?_,.inl zae⟩
  show up (A l).wk n _ i=0
  rw [zbu hi]
  exact (K.qu hl).wk i⟩
 refine ⟨_,_,_,A2,W2,e,e2,ok2,?_⟩
 have hw:=(ok2.qu hl).wk n
 rcases p2.2 with r|⟨_,r1,r2,_⟩
 ·rw [hw] at r
  cases w<;>cases r
 unfold hasF
 rw [ok2.rest hn,decide_eq_false (show ¬ Wait.Line w00=(l:Int) + 1 by show ¬ (0:Int)=(l:Int) + 1;omega),Bool.not_false,Bool.true_and]
 cases w
 ·simp only [wA0,if_false,Bool.not_eq_true',decide_eq_false_iff_not]
  omega
 ·have:=r2 rfl
  simp only [if_true,this]
  rfl
theorem zma {a b x y:Int}(ha:0≤a∧a<256) (hb:0≤b∧b<256) {l:List l10_Act}(hl:∀ a∈l,zwU a) (hx:0≤x∧x<256) (hy:0≤y∧y<256) (w:Bool):zep a b l x y w=some true:=by
 obtain ⟨c,c1,c4,e1,e2⟩:=zwv ha.1 ha.2
 obtain ⟨h,h1,h4,f1,f2⟩:=zwv hb.1 hb.2
 obtain ⟨A,W,ms,v,d,K⟩:=zm1 hl (min l.length 100) 0 (ok0 c1 c4 h1 (show h≤16 by omega)) (by omega)
 obtain ⟨A1,W1,m1,K1,_⟩:=ztc K h4 (fun _=>True) (fun _ _ _ _ _ _ _ _ _=>trivial) trivial
 obtain ⟨n,n1,_,n3⟩:=remN hx.1 hx.2 (show 0<c by omega)
 obtain ⟨k,k1,_,k3⟩:=remN hy.1 hy.2 (show 0<h by omega)
 have hs:=ztl (V:=fun n l=>(A1 l).va n) (H:=fun l=>(A1 l).ho) K1.fit n1 k1 w
 have hs':zdQ (pr c h A1 W1 []) (n:Int) (k:Int) w=some (hasF (fun n l=>((A1 l).st n:Int)) W1 n k w):=hs
 unfold zep zk8
 simp only [e1,e2,f1,f2,wC0,zxv c1 c4 h1 (show h≤16 by omega),decide_true,wH0,wA0,if_false,show zal (zaV l) ((0:Int),pr c h (fun _=>al0) (fun _=>w00) [])=_ from d,m1,znn,zue,zaU,n3,k3,hs']
 cases q:hasF (fun n l=>((A1 l).st n:Int)) W1 n k w
 ·obtain ⟨A',W',ms',A2,W2,g1,g2,K2,g3⟩:=zs4 K1 h4 n1 k1 w q
  have ht:=ztl (V:=fun n l=>(A2 l).va n) (H:=fun l=>(A2 l).ho) K2.fit n1 k1 w
  rw [g3] at ht
  have ht':zdQ (pr c h A2 W2 []) (n:Int) (k:Int) w=some true:=ht
  simp only [wA0,if_false,g1,wC0,g2,decide_true,if_true,ht']
 ·rfl
theorem zoe (x:Ty.Tup zbZ.ps) (h:OkL zbZ.ps x):zbZ.sem x=some true :=
 zma ⟨h.1.1,Int.lt_of_le_of_lt h.1.2 (by decide)⟩ ⟨h.2.1.1,Int.lt_of_le_of_lt h.2.1.2 (by decide)⟩ (fun a ha=>by
  have q:=h.2.2.1.2 a ha
  exact ⟨⟨q.1.1,Int.lt_of_le_of_lt q.1.2 (by decide)⟩,⟨q.2.1.1,Int.lt_of_le_of_lt q.2.1.2 (by decide)⟩,⟨q.2.2.1.1,Int.lt_of_le_of_lt q.2.2.1.2 (by decide)⟩,⟨q.2.2.2.1.1,Int.lt_of_le_of_lt q.2.2.2.1.2 (by decide)⟩,⟨q.2.2.2.2.2.1,Int.lt_of_le_of_lt q.2.2.2.2.2.2 (by decide)⟩⟩) ⟨h.2.2.2.1.1,Int.lt_of_le_of_lt h.2.2.2.1.2 (by decide)⟩ ⟨h.2.2.2.2.1.1,Int.lt_of_le_of_lt h.2.2.2.2.1.2 (by decide)⟩ _
end
end Go.Proofs.Ytlgjbfdojbmmgaa
