/- The law ProtoHome on typed data. No condition. -/
import Derived.Test.YtlgjbfdojbmmgaaS4
set_option linter.unusedSimpArgs false
set_option linter.unusedVariables false
set_option maxRecDepth 100000
set_option maxHeartbeats 800000
namespace Go.Proofs.Ytlgjbfdojbmmgaa
open Go.SX
def Hk (k:Nat) (A:AL):Prop:=(∀ n,n≠k→A.wk n=0)∧A.bu=0∧(A.wk k=3∧A.tk k=1∧A.ow=k + 1∨A.wk k=3∧A.tk k=3∧A.ow=0∨A.wk k=0∧A.st k=0∧A.ow=0)
theorem zwP {c k:Nat}{A B:AL}{v:Int}(i:Iv c A v) (g:Hk k A) (e:Ev c A B):Hk k B:=by
 obtain ⟨g1,g2,g3⟩:=g
 have bz:=i.bz.1
 have t0:=i.t0
 have p1:=i.p1
 clear i
 refine ⟨?_,?_,?_⟩
 ·cases e<;>(try unfold zdc)<;>dsimp only<;>first|exact g1|(simp only [up];grind)
 ·cases e<;>(try unfold zdc)<;>dsimp only<;>grind
 ·cases e<;>(try unfold zdc)<;>dsimp only<;>(try simp only [up])<;>grind
section
variable {c h:Nat}
theorem zoG {l:List l10_Act}(hl:∀ a∈l,zwV a):∀ (d i:Nat) {A:Nat→AL}{W:Nat→Wait}{ms:List Msg}{v:Nat→Int},Ok c h A W ms v→i + d=min l.length 100→∃ A' W' ms' v',zaj (za4 l) ((i:Int),pr c h A W ms,ls h v)=some (pr c h A' W' ms',ls h v')∧Ok c h A' W' ms' v'
 | 0,i,A,W,ms,v,K,e=>by
  refine ⟨A,W,ms,v,zcL ?_,K⟩
  unfold za4
  rw [if_neg (by simp only [wD0,vG0];omega)]
 | d + 1,i,A,W,ms,v,K,ed=>by
  have hi:i<l.length:=by omega
  have O:=hl _ (List.getElem_mem hi)
  obtain ⟨A',W',ms',e,v',q,ok,hv⟩:=zyo K O
  obtain ⟨k,k1,k2,k3⟩:=remN O.2.2.1.1 O.2.2.1.2 (show 0<h from K.h1)
  have r3:=(zn4 (a:=l10_Act.Kind l[i]) (n:=8) O.1.1 (by omega)).1
  have st:za4 l ((i:Int),pr c h A W ms,ls h v)=some (Sum.inl (((i + 1:Nat):Int),pr c h A' W' ms',ls h v')):=by
   unfold za4
   simp only [show (i:Int)<(List.length l:Int) by omega,show (i:Int)<100 by omega,vE0,Bool.and_self,if_true,zbA hi,wC0,q,r3,zaW,k3,zjl k1,zaY k1,zaD (show i<4611686018427387904 by omega)]
   rw [hv,k2]
   by_cases z:l10_Act.Kind l[i] % 8=3
   ·by_cases r:e=0
    ·simp only [z,r,vE0,if_true,wC0,and_self]
     rfl
    ·simp only [z,r,vE0,vF0,if_true,wA0,if_false,wC0,and_false]
   ·simp only [z,vF0,wA0,if_false,wC0,false_and]
  rw [zgI,st]
  exact zoG hl d (i + 1) ok (by omega)
theorem zlz (h4:h≤4) {l:Nat}(hl:l<h) {v:Nat→Int}:∀ (d i:Nat) {A:Nat→AL}{W:Nat→Wait},Ok c h A W [] v→i + d=c→(∀ n,n<i→(A l).st n≤1)→∃ A' W',zaj (zaI (l:Int)) ((i:Int),pr c h A W [])=some (Sum.inl (pr c h A' W' []))∧Ok c h A' W' [] v∧∀ n,n<c→(A' l).st n≤1
 | 0,i,A,W,K,e,hs=>by
  refine ⟨A,W,zcL ?_,K,fun n hn=>hs n (by omega)⟩
  have e1:Proto.State (pr c h A W [])=tb c h fun n l=>((A l).st n:Int):=rfl
  unfold zaI
  simp only [e1,zor,show ¬ (i:Int)<(c:Int) by omega,vF0,wA0,if_false]
 | d + 1,i,A,W,K,e,hs=>by
  have hi:i<c:=by omega
  have c4:=K.c4
  have e1:∀ (A:Nat→AL) (W:Nat→Wait),Proto.State (pr c h A W [])=tb c h fun n l=>((A l).st n:Int):=fun _ _=>rfl
  by_cases q:2≤(A l).st i
  ·rcases zrx K hi hl with ⟨x,_,r|r⟩|⟨_,_,_,r⟩|⟨m,g,ok,_,_⟩
   ·rcases r.2 with r|r
    ·rw [K.rest hi] at r;exact absurd r (by decide)
    ·omega
   ·cases r.2
   ·omega
   have Q:=K.qu hl
   have hn:(A l).tk i=0:=Q.tk i
   have ho:(A l).ow=i + 1:=by
    rcases (K.lv l hl).iv.o2 i q with r|r|r
    ·exact r
    ·omega
    ·rw [Q.ph] at r;cases r.1
   obtain ⟨A2,W2,g2,K2,p1,p2⟩:=znk ok h4 (fun A=>(∀ j,j<h→j≠l→Qu (A j))∧Hk i (A l)) (fun A W ms j B K hj ev p=>by
    by_cases r:j=l
    ·subst r
     refine ⟨fun i hi hne=>by rw [zbd hne];exact p.1 i hi hne,?_⟩
     rw [zad]
     exact zwP (K.lv j hj).iv p.2 ev
    ·exact ((p.1 j hj r).no ev).elim) ⟨fun j hj hne=>by rw [zbd hne];exact K.qu hj,by
    rw [zad]
    refine ⟨fun k hk=>?_,Q.bu,.inl ⟨zad,zad,ho⟩⟩
    show up (A l).wk i _ k=0
    rw [zbd hk]
    exact Q.wk k⟩
   have Q2:=K2.qu hl
   have hw:=Q2.wk i
   have hz:(A2 l).st i=0∧(A2 l).ow=0:=by
    rcases p2.2.2 with r|r|r
    ·omega
    ·omega
    ·exact r.2
   have st:zaI (l:Int) ((i:Int),pr c h A W [])=some (Sum.inl (((i + 1:Nat):Int),pr c h A2 W2 [])):=by
    unfold zaI
    simp only [e1,zor,show (i:Int)<(c:Int) by omega,vE0,if_true,zby hi,zaq hl,wC0,show (2:Int)≤((A l).st i:Int) by omega,g,g2,wH0,wA0,if_false,hz.1,show ((0:Nat):Int)=0 from rfl,zaL,zaD (show i<4611686018427387904 by omega)]
   rw [zgI,st]
   refine zlz h4 hl d (i + 1) K2 (by omega) fun n _=>?_
   apply Classical.byContradiction
   intro r
   rcases (K2.lv l hl).iv.o2 n (by omega) with s|s|s
   ·omega
   ·rw [Q2.tk n] at s;cases s
   ·rw [Q2.ph] at s;cases s.1
  ·have st:zaI (l:Int) ((i:Int),pr c h A W [])=some (Sum.inl (((i + 1:Nat):Int),pr c h A W [])):=by
    unfold zaI
    simp only [e1,zor,show (i:Int)<(c:Int) by omega,vE0,if_true,zby hi,zaq hl,wC0,show ¬ (2:Int)≤((A l).st i:Int) by omega,vF0,wA0,if_false,zaL,zaD (show i<4611686018427387904 by omega)]
   rw [zgI,st]
   exact zlz h4 hl d (i + 1) K (by omega) fun n hn=>by
    by_cases r:n=i
    ·subst r;omega
    ·exact hs n (by omega)
theorem znS {a b x y:Int}(ha:0≤a∧a<256) (hb:0≤b∧b<256) {l:List l10_Act}(hl:∀ a∈l,zwV a) (hx:0≤x∧x<256) (hy:0≤y∧y<256):zfo a b l x y=some true:=by
 obtain ⟨c,c1,c4,e1,e2⟩:=zv8 ha.1 ha.2
 obtain ⟨h,h1,h4,f1,f2⟩:=zv8 hb.1 hb.2
 have rp:repO (0:Int) 4 (h:Int) (h:Int)=some (ls h fun _=>0):=by rw [zeZ (by omega) (by omega),zwf]
 obtain ⟨A,W,ms,v,d,K⟩:=zoG hl (min l.length 100) 0 (ok0 c1 c4 h1 (show h≤16 by omega)) (by omega)
 obtain ⟨A1,W1,m1,K1,_⟩:=znk K h4 (fun _=>True) (fun _ _ _ _ _ _ _ _ _=>trivial) trivial
 obtain ⟨k,k1,_,k3⟩:=remN hx.1 hx.2 (show 0<h by omega)
 obtain ⟨n,n1,_,n3⟩:=remN hy.1 hy.2 (show 0<c by omega)
 obtain ⟨A2,W2,m2,K2,s2⟩:=zlz h4 k1 c 0 K1 (by omega) fun n hn=>by omega
 have Q:=K2.qu k1
 have i:=(K2.lv k k1).iv
 have ow:(A2 k).ow=0:=by
  apply Classical.byContradiction
  intro r
  have bz:=i.bz.2.2.2
  have:=s2 ((A2 k).ow - 1) (by omega)
  rcases i.o1 ((A2 k).ow - 1) (by omega) with s|s
  ·omega
  ·rw [Q.bu] at s;omega
 have ho:=i.hv ow
 have last:∃ A3 W3 p3 e3,zbx (pr c h A2 W2 []) (n:Int) (k:Int) false=some (p3,e3)∧zee p3=some (pr c h A3 W3 [],true)∧Ok c h A3 W3 [] v∧hasF (fun n l=>((A3 l).st n:Int)) W3 n k false=true:=by
  cases q:hasF (fun n l=>((A2 l).st n:Int)) W2 n k false
  ·obtain ⟨A',W',ms',A3,W3,g1,g2,K3,g3⟩:=ztE K2 h4 n1 k1 false q
   exact ⟨A3,W3,_,_,g1,g2,K3,g3⟩
  ·have e:=zrQ (V:=fun n l=>(A2 l).va n) (H:=fun l=>(A2 l).ho) K2.fit n1 k1 false
   rw [if_pos (.inr q)] at e
   obtain ⟨A3,W3,m3,K3,p⟩:=znk K2 h4 (fun A=>A=A2) (fun A W ms j B K hj ev p=>by
    rw [p] at ev
    exact ((K2.qu hj).no ev).elim) rfl
   refine ⟨A3,W3,_,_,e,m3,K3,?_⟩
   subst p
   unfold hasF at q ⊢
   rw [K2.rest n1] at q
   rw [K3.rest n1]
   exact q
 obtain ⟨A3,W3,p3,e3,g1,g2,K3,g3⟩:=last
 have gt:=zxq (V:=fun n l=>(A3 l).va n) (H:=fun l=>(A3 l).ho) K3.fit n1 k1
 rw [if_pos g3,zxt K3 n1 k1 g3] at gt
 have gt':zgu (pr c h A3 W3 []) (n:Int) (k:Int)=some (v k,0):=gt
 have pd1:Proto.Dir (pr c h A2 W2 [])=ls h fun l=>Entry.mk ((A2 l).ow:Int) (ls c (A2 l).sh):=rfl
 unfold zfo zlk
 simp only [e1,e2,f1,f2,wC0,zym c1 c4 h1 (show h≤16 by omega),vE0,wH0,wA0,if_false,zsY,zaW,rp,show zaj (za4 l) ((0:Int),pr c h (fun _=>al0) (fun _=>w00) [],ls h fun _=>0)=_ from d,m1,k3,show zaj (zaI (k:Int)) ((0:Int),pr c h A1 W1 [])=_ from m2,zaL,znE,n3,g1,g2,gt',if_true,zaq k1,zjl k1,ho,pd1,show Entry.Owner (Entry.mk ((A2 k).ow:Int) (ls c (A2 k).sh))=((A2 k).ow:Int) from rfl,ow,show ((0:Nat):Int)=0 from rfl]
 rfl
theorem zpa (x:Ty.Tup zck.ps) (h:OkL zck.ps x):zck.sem x=some true :=
 znS ⟨h.1.1,Int.lt_of_le_of_lt h.1.2 (by decide)⟩ ⟨h.2.1.1,Int.lt_of_le_of_lt h.2.1.2 (by decide)⟩ (fun a ha=>by
  have q:=h.2.2.1.2 a ha
  exact ⟨⟨q.1.1,Int.lt_of_le_of_lt q.1.2 (by decide)⟩,⟨q.2.1.1,Int.lt_of_le_of_lt q.2.1.2 (by decide)⟩,⟨q.2.2.1.1,Int.lt_of_le_of_lt q.2.2.1.2 (by decide)⟩,⟨q.2.2.2.1.1,Int.lt_of_le_of_lt q.2.2.2.1.2 (by decide)⟩,⟨q.2.2.2.2.2.1,Int.lt_of_le_of_lt q.2.2.2.2.2.2 (by decide)⟩⟩) ⟨h.2.2.2.1.1,Int.lt_of_le_of_lt h.2.2.2.1.2 (by decide)⟩ ⟨h.2.2.2.2.1,Int.lt_of_le_of_lt h.2.2.2.2.2 (by decide)⟩
end
end Go.Proofs.Ytlgjbfdojbmmgaa
