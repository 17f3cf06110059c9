/- What a delivery may make of a line; what always holds of a line stays. No condition. -/
import Derived.Test.YtlgjbfdojbmmgaaRD
import Derived.Test.YtlgjbfdojbmmgaaRM
set_option linter.unusedSimpArgs false
set_option linter.unusedVariables false
set_option maxRecDepth 100000
namespace Go.Proofs.Ytlgjbfdojbmmgaa
open Go.SX
def zeL (A:AL) (n:Nat):AL:={ A with ph:=5,wk:=up A.wk n 0,st:=up A.st n (if A.wk n=2 then 3 else if A.own=true then 2 else 1),va:=up A.va n (if A.kp=true then A.va n else A.pv) }
def zz0 (A:AL) (n k:Nat):Nat:=if k≠n∧A.sh k=true then 1 else 0
inductive Ev (c:Nat) (A:AL):AL→Prop
 | nack (n:Nat) (hn:n<c) (h0:A.tk n=1) (hb:A.bu≠0):Ev c A { A with tk:=up A.tk n 2 }
 | again (n:Nat) (hn:n<c) (h0:A.tk n=2) (h1:A.wk n≠3):Ev c A { A with tk:=up A.tk n 1 }
 | again3 (n:Nat) (hn:n<c) (h0:A.tk n=2) (h1:A.wk n=3) (h2:2≤A.st n):Ev c A { A with tk:=up A.tk n 1,tv:=up A.tv n (A.va n) }
 | lost (n:Nat) (hn:n<c) (h0:A.tk n=2) (h1:A.wk n=3) (h2:A.st n=0):Ev c A { A with tk:=up A.tk n 0,wk:=up A.wk n 0 }
 | put (n:Nat) (hn:n<c) (h0:A.tk n=1) (h1:A.wk n=3) (hb:A.bu=0) (h2:A.ow=n + 1):Ev c A { A with tk:=up A.tk n 3,ow:=0,ho:=A.tv n }
 | putx (n:Nat) (hn:n<c) (h0:A.tk n=1) (h1:A.wk n=3) (hb:A.bu=0) (h2:A.ow≠n + 1):Ev c A { A with tk:=up A.tk n 3 }
 | gone (n:Nat) (hn:n<c) (h0:A.tk n=3):Ev c A { A with tk:=up A.tk n 0,wk:=up A.wk n 0,st:=up A.st n 0 }
 | rd0 (n:Nat) (hn:n<c) (h0:A.tk n=1) (h1:A.wk n=1) (hb:A.bu=0) (h2:A.ow=0) (h3:∀ k,k≠n→A.sh k=false):Ev c A { A with tk:=up A.tk n 0,bu:=n + 1,ow:=n + 1,sh:=up A.sh n false,ph:=3,ac:=0,got:=0,own:=true,kp:=false,pv:=A.ho,sr:=0 }
 | rd1 (n:Nat) (hn:n<c) (h0:A.tk n=1) (h1:A.wk n=1) (hb:A.bu=0) (h2:A.ow=0) (h3:∃ k,k≠n∧A.sh k=true):Ev c A { A with tk:=up A.tk n 0,bu:=n + 1,sh:=up A.sh n true,ph:=3,ac:=0,got:=0,own:=false,kp:=false,pv:=A.ho,sr:=0 }
 | rd2 (n:Nat) (hn:n<c) (h0:A.tk n=1) (h1:A.wk n=1) (hb:A.bu=0) (o:Nat) (h2:A.ow=o + 1):Ev c A { A with tk:=up A.tk n 0,bu:=n + 1,sh:=up A.sh n true,ph:=1,ac:=0,got:=0,fo:=o }
 | wr0 (n:Nat) (hn:n<c) (h0:A.tk n=1) (h1:A.wk n=2) (hb:A.bu=0) (h2:A.ow=0):Ev c A { A with sh:=fun _=>false,ow:=n + 1,tk:=up A.tk n 0,bu:=n + 1,pd:=zz0 A n,ac:=np (zz0 A n),got:=0,ph:=3,own:=true,kp:=false,pv:=A.ho,sr:=0 }
 | wr1 (n:Nat) (hn:n<c) (h0:A.tk n=1) (h1:A.wk n=2) (hb:A.bu=0) (h2:A.ow=n + 1):Ev c A { A with sh:=fun _=>false,ow:=n + 1,tk:=up A.tk n 0,bu:=n + 1,pd:=zz0 A n,ac:=np (zz0 A n),got:=0,ph:=3,own:=true,kp:=true,pv:=0,sr:=0 }
 | wr2 (n:Nat) (hn:n<c) (h0:A.tk n=1) (h1:A.wk n=2) (hb:A.bu=0) (o:Nat) (h2:A.ow=o + 1) (h3:o≠n):Ev c A { A with sh:=fun _=>false,ow:=n + 1,tk:=up A.tk n 0,bu:=n + 1,pd:=zz0 A n,ac:=np (zz0 A n),got:=0,ph:=2,fo:=o }
 | fs (n:Nat) (hn:n<c) (h0:A.ph=1) (h1:A.fo=n):Ev c A { A with st:=up A.st n 4,ph:=3,own:=false,kp:=false,pv:=A.va n,sr:=n + 1 }
 | fm (n:Nat) (hn:n<c) (h0:A.ph=2) (h1:A.fo=n):Ev c A { A with st:=up A.st n 0,ph:=3,own:=true,kp:=false,pv:=A.va n,sr:=n + 1 }
 | inv (n:Nat) (hn:n<c) (h0:A.pd n=1):Ev c A { A with pd:=up A.pd n 2,st:=up A.st n (if A.st n=1 then 0 else A.st n) }
 | dataw (n:Nat) (hn:n<c) (h0:A.ph=3) (h1:A.bu=n + 1) (h2:A.got<A.ac):Ev c A { A with ph:=4 }
 | datad (n:Nat) (hn:n<c) (h0:A.ph=3) (h1:A.bu=n + 1) (h2:A.ac≤A.got):Ev c A (zeL { A with ph:=4 } n)
 | ackw (k n:Nat) (hk:k<c) (hn:n<c) (h0:A.pd k=2) (h1:A.bu=n + 1) (h2:A.ph=4→A.got + 1<A.ac):Ev c A { A with pd:=up A.pd k 0,got:=A.got + 1 }
 | ackd (k n:Nat) (hk:k<c) (hn:n<c) (h0:A.pd k=2) (h1:A.bu=n + 1) (h2:A.ph=4) (h3:A.ac≤A.got + 1):Ev c A (zeL { A with pd:=up A.pd k 0,got:=A.got + 1 } n)
 | free (n:Nat) (hn:n<c) (h0:A.ph=5) (h1:A.bu=n + 1):Ev c A { A with ph:=0,bu:=0 }
structure Lv (c:Nat) (A:AL) (v:Int):Prop where
 iv:Iv c A v
 pc:A.ph=4→A.got<A.ac
 sc:A.sr≤c
 uv:(∀ n,U32 (A.va n))∧(∀ n,U32 (A.tv n))∧U32 A.ho∧U32 A.pv
theorem Ev.keep {c:Nat}{A B:AL}{v:Int}(h:Lv c A v) (e:Ev c A B):Lv c B v:=by
 obtain ⟨i,pc,sc,u1,u2,u3,u4⟩:=h
 refine ⟨?_,?_,?_,?_⟩
 ·cases e with
  | nack n hn h0 hb=>exact zyg i hn h0
  | again n hn h0 h1=>exact zxl i hn h0 h1
  | again3 n hn h0 h1 h2=>exact zwk i hn h0 h1 h2
  | lost n hn h0 h1 h2=>exact zyq i hn h0 h1 h2
  | put n hn h0 h1 hb h2=>exact zzl i hn h0 h1 hb h2
  | putx n hn h0 h1 hb h2=>exact zyv i hn h0 h1 hb h2
  | gone n hn h0=>exact zy9 i hn h0
  | rd0 n hn h0 h1 hb h2 h3=>exact zzv i hn h0 h1 hb h2 h3
  | rd1 n hn h0 h1 hb h2 h3=>exact zzA i hn h0 h1 hb h2 h3
  | rd2 n hn h0 h1 hb o h2=>exact zzz i hn h0 h1 hb h2
  | wr0 n hn h0 h1 hb h2=>exact zzh i hn h0 h1 hb h2 true
  | wr1 n hn h0 h1 hb h2=>exact zzy i hn h0 h1 hb h2 true
  | wr2 n hn h0 h1 hb o h2 h3=>exact zzu i hn h0 h1 hb h2 h3
  | fs n hn h0 h1=>exact zBi i hn h0 h1
  | fm n hn h0 h1=>exact zBr i hn h0 h1
  | inv n hn h0=>exact zzo i hn h0
  | dataw n hn h0 h1 h2=>exact zwQ i hn h0
  | datad n hn h0 h1 h2=>exact zwM (zwQ i hn h0) hn rfl h1 h2
  | ackw k n hk hn h0 h1 h2=>exact zy6 i hk h0
  | ackd k n hk hn h0 h1 h2 h3=>exact zwM (zy6 i hk h0) hn h2 h1 h3
  | free n hn h0 h1=>exact zyl i hn h0
 ·cases e<;>(try unfold zeL)<;>dsimp only<;>grind
 ·cases e<;>(try unfold zeL)<;>dsimp only<;>omega
 ·have z:=u0
  have uu:∀ (f:Nat→Int) (n:Nat) (x:Int),(∀ k,U32 (f k))→U32 x→∀ k,U32 (up f n x k):=fun f n x hf hx k=>by unfold up;split;exact hx;exact hf k
  cases e<;>(try unfold zeL)<;>dsimp only<;>refine ⟨?_,?_,?_,?_⟩<;>first|assumption|exact u1 _|exact u2 _|exact uu _ _ _ u2 (u1 _)|exact uu _ _ _ u1 (by split<;>first|exact u1 _|assumption)
end Go.Proofs.Ytlgjbfdojbmmgaa
