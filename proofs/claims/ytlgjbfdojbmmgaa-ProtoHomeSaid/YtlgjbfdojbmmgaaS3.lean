/- Calm: all that is under way comes. No condition. -/
import Derived.Test.YtlgjbfdojbmmgaaS2
set_option linter.unusedSimpArgs false
set_option linter.unusedVariables false
set_option maxRecDepth 100000
set_option maxHeartbeats 800000
namespace Go.Proofs.Ytlgjbfdojbmmgaa
open Go.SX
structure Qu (A:AL):Prop where
 bu:A.bu=0
 ph:A.ph=0
 tk:∀ n,A.tk n=0
 pd:∀ n,A.pd n=0
 wk:∀ n,A.wk n=0
theorem Qu.no {c:Nat}{A B:AL}(q:Qu A) (e:Ev c A B):False:=by
 obtain ⟨q1,q2,q3,q4,q5⟩:=q
 cases e<;>grind
section
variable {c h:Nat} {A:Nat→AL} {W:Nat→Wait} {ms:List Msg} {v:Nat→Int}
theorem Ok.qu (K:Ok c h A W [] v) {l:Nat}(hl:l<h):Qu (A l):=by
 have L:=K.lv l hl
 have i:=L.iv
 have z:∀ x,Msg.Line x=(l:Int)→cA (A l) l x=0:=fun x hx=>(K.ct l hl x hx).symm
 have io1:∀ m,io (some m) m=1:=fun m=>if_pos rfl
 have s4z:∀ (f:Nat→Option Msg),(∀ x,Msg.Line x=(l:Int)→s4 (fun n=>io (f n) x)=0)→(∀ n m,f n=some m→Msg.Line m=(l:Int))→∀ n,n<4→f n=none:=fun f h1 h2 n hn=>by
  cases e:f n with
  | none=>rfl
  | some m =>
   have a:=h1 m (h2 n m e)
   have b:io (f n) m=1:=by rw [e];exact io1 m
   have:n=0∨n=1∨n=2∨n=3:=by omega
   unfold s4 at a
   dsimp only at a
   rcases this with r|r|r|r<;>rw [r] at b<;>omega
 have t4:∀ n,n<4→tkS (A l) l n=none:=s4z (tkS (A l) l) (fun x hx=>by have:=z x hx;unfold cA at this;omega) fun n m e=>(zrj e).1
 have d4:∀ n,n<4→pdS (A l) l n=none:=s4z (pdS (A l) l) (fun x hx=>by have:=z x hx;unfold cA at this;omega) fun n m e=>(ze3 e).1
 have p4:phS (A l) l=none:=by
  cases e:phS (A l) l with
  | none=>rfl
  | some m =>
   have:=z m (zkl e).1
   unfold cA at this
   rw [e,io1] at this
   omega
 have tk:∀ n,(A l).tk n=0:=fun n=>by
  by_cases hn:n<4
  ·apply Classical.byContradiction
   intro q
   have:=t4 n hn
   have s:=(i.s4 n).2.2.1
   by_cases q1:(A l).tk n=1
   ·by_cases q3:(A l).wk n=3
    ·rw [zqC q1 q3] at this;cases this
    ·rw [zls q1 q3] at this;cases this
   by_cases q2:(A l).tk n=2
   ·rw [zxv q2] at this;cases this
   ·rw [zu6 (show (A l).tk n=3 by omega)] at this;cases this
  ·have:=K.c4
   exact (i.rg n (by omega)).2.2.1
 have pd:∀ n,(A l).pd n=0:=fun n=>by
  by_cases hn:n<4
  ·apply Classical.byContradiction
   intro q
   have:=d4 n hn
   have s:=(i.s4 n).2.2.2
   by_cases q1:(A l).pd n=1
   ·rw [zvG q1] at this;cases this
   ·rw [zvB (show (A l).pd n=2 by omega)] at this;cases this
  ·have:=K.c4
   exact (i.rg n (by omega)).2.2.2.1
 have ph:(A l).ph=0:=by
  apply Classical.byContradiction
  intro q
  have bz:=i.bz
  by_cases q4:(A l).ph=4
  ·have a:=L.pc q4
   have b:=i.ct (by omega) (by omega)
   rw [zvK pd] at b
   omega
  ·unfold phS at p4
   by_cases q1:(A l).ph=1
   ·rw [if_pos q1] at p4;cases p4
   by_cases q2:(A l).ph=2
   ·rw [if_neg q1,if_pos q2] at p4;cases p4
   by_cases q3:(A l).ph=3
   ·rw [if_neg q1,if_neg q2,if_pos q3] at p4;cases p4
   rw [if_neg q1,if_neg q2,if_neg q3,if_pos (show (A l).ph=5 by omega)] at p4
   cases p4
 have bu:(A l).bu=0:=i.bz.1.2 ph
 refine ⟨bu,ph,tk,pd,fun n=>?_⟩
 apply Classical.byContradiction
 intro q
 have:=(i.tw n q (tk n)).1
 omega
theorem Ok.rest (K:Ok c h A W [] v) {n:Nat}(hn:n<c):W n=w00:=K.w0 n hn fun l hl=>(K.qu hl).wk n
theorem zq9 (h4:h≤6) (P:(Nat→AL)→Prop) (hP:∀ A W ms l B,Ok c h A W ms v→l<h→Ev c (A l) B→P A→P (up A l B)):∀ (M:Nat) {A:Nat→AL}{W:Nat→Wait}{ms:List Msg}(n:Nat),Ok c h A W ms v→P A→5 * Phi A h + jx ms≤M→n + M<2000→∃ A' W',zaj zdW ((n:Int),pr c h A W ms)=some (Sum.inl (pr c h A' W' []))∧Ok c h A' W' [] v∧P A'
 | M,A,W,ms,n,K,p,hm,hn=>by
  cases hs:ms with
  | nil =>
   subst hs
   refine ⟨A,W,zcL ?_,K,p⟩
   unfold zdW
   simp only [zqN,zfF,List.length_nil,show ¬ (0:Int)<((0:Nat):Int) by omega,vF0,Bool.and_false,wA0,if_false]
  | cons m r =>
   have hk:0<ms.length:=by rw [hs];simp
   obtain ⟨l,B,W',ms',hl,ev,d,ok,lt⟩:=less K h4 hk
   have st:zdW ((n:Int),pr c h A W ms)=some (Sum.inl (((n + 1:Nat):Int),pr c h (up A l B) W' ms')):=by
    unfold zdW
    simp only [zqN,zfF,show (n:Int)<2000 by omega,show (0:Int)<(ms.length:Int) by omega,vE0,Bool.and_self,if_true,d,wC0,wH0,wA0,if_false,zaD (show n<4611686018427387904 by omega)]
   rw [← hs,zgI,st]
   cases M with
   | zero=>omega
   | succ M=>exact zq9 h4 P hP M (n + 1) ok (hP A W ms l B K hl ev p) (by omega) (by omega)
theorem znk (K:Ok c h A W ms v) (h4:h≤4) (P:(Nat→AL)→Prop) (hP:∀ A W ms l B,Ok c h A W ms v→l<h→Ev c (A l) B→P A→P (up A l B)) (p:P A):∃ A' W',zee (pr c h A W ms)=some (pr c h A' W' [],true)∧Ok c h A' W' [] v∧P A':=by
 have b:=K.pbd
 have j:=zx5 K
 have c4:=K.c4
 obtain ⟨A',W',e,ok,p'⟩:=zq9 (c:=c) (h:=h) (v:=v) (by omega) P hP 504 0 K p (by omega) (by omega)
 refine ⟨A',W',?_,ok,p'⟩
 have l2:=za1 (f:=zdK (pr c h A' W' [])) (n:=c) (e:=(Sum.inl ():Unit⊕(Proto×Bool))) (fun i=>(i:Int)) (fun i hi=>by
  unfold zdK
  simp only [znE,zaW,show (i:Int)<(c:Int) by omega,vE0,if_true,zaq hi,wC0,ok.rest hi,show Wait.Line w00=0 from rfl,wH0,wA0,if_false,zaD (show i<4611686018427387904 by omega)]) (by
  unfold zdK
  simp only [znE,zaW,show ¬ (c:Int)<(c:Int) by omega,vF0,wA0,if_false])
 have pb1:Proto.Busy (pr c h A' W' [])=ls h fun l=>((A' l).bu:Int):=rfl
 have l1:=za1 (f:=zdM (pr c h A' W' [])) (n:=h) (e:=(Sum.inl ():Unit⊕(Proto×Bool))) (fun i=>(i:Int)) (fun i hi=>by
  unfold zdM
  simp only [pb1,zaW,show (i:Int)<(h:Int) by omega,vE0,if_true,zaq hi,wC0,(ok.qu hi).bu,show ((0:Nat):Int)=0 from rfl,wH0,wA0,if_false,zaD (show i<4611686018427387904 by omega)]) (by
  unfold zdM
  simp only [pb1,zaW,show ¬ (h:Int)<(h:Int) by omega,vF0,wA0,if_false])
 unfold zee
 rw [show ((0:Int),pr c h A W ms)=(((0:Nat):Int),pr c h A W ms) from rfl,e]
 simp only [zaL,show zaj (zdK (pr c h A' W' [])) (0:Int)=_ from l2,show zaj (zdM (pr c h A' W' [])) (0:Int)=_ from l1]
 rfl
end
def Gk (k w:Nat) (A:AL):Prop:=(∀ n,n≠k→A.wk n=0)∧(A.wk k=w∨A.wk k=0∧A.st k≠0∧(w=2→A.st k=3)∧(A.ph=5∨A.ph=0))
theorem zxo {c k w:Nat}{A B:AL}{v:Int}(i:Iv c A v) (hw:w=1∨w=2) (g:Gk k w A) (e:Ev c A B):Gk k w B:=by
 obtain ⟨g1,g2⟩:=g
 have bz:=i.bz.1
 have t0:=i.t0
 have op:=i.op
 have p1:=i.p1
 have tw:=i.tw
 have t3:=i.t3
 clear i
 refine ⟨?_,?_⟩
 ·cases e<;>(try unfold zdc)<;>dsimp only<;>first|exact g1|(simp only [up];grind)
 ·cases e<;>(try unfold zdc)<;>dsimp only<;>(try simp only [up])<;>grind
end Go.Proofs.Ytlgjbfdojbmmgaa
