/- Calm: all that is under way comes. No condition. -/
import Derived.Test.YtlgjbfdojbmmgaaS2
set_option linter.unusedSimpArgs false
set_option linter.unusedVariables false
set_option maxRecDepth 100000
set_option maxHeartbeats 800000
namespace Go.Proofs.Ytlgjbfdojbmmgaa
open Go.SX
structure Qu (A:AL):Prop where
 bu:A.bu=0
 ph:A.ph=0
 tk:∀ n,A.tk n=0
 pd:∀ n,A.pd n=0
 wk:∀ n,A.wk n=0
theorem Qu.no {c:Nat}{A B:AL}(q:Qu A) (e:Ev c A B):False:=by
 obtain ⟨q1,q2,q3,q4,q5⟩:=q
 cases e<;>grind
section
variable {c h:Nat} {A:Nat→AL} {W:Nat→Wait} {ms:List Msg} {v:Nat→Int}
theorem Ok.qu (K:Ok c h A W [] v) {l:Nat}(hl:l<h):Qu (A l):=by
 have L:=K.lv l hl
 have i:=L.iv
 have z:∀ x,Msg.Line x=(l:Int)→cA (A l) l x=0:=fun x hx=>(K.ct l hl x hx).symm
 have io1:∀ m,io (some m) m=1:=fun m=>if_pos rfl
 have s4z:∀ (f:Nat→Option Msg),(∀ x,Msg.Line x=(l:Int)→s4 (fun n=>io (f n) x)=0)→(∀ n m,f n=some m→Msg.Line m=(l:Int))→∀ n,n<4→f n=none:=fun f h1 h2 n hn=>by
  cases e:f n with
  | none=>rfl
  | some m =>
   have a:=h1 m (h2 n m e)
   have b:io (f n) m=1:=by rw [e];exact io1 m
   have:n=0∨n=1∨n=2∨n=3:=by omega
   unfold s4 at a
   dsimp only at a
   rcases this with r|r|r|r<;>rw [r] at b<;>omega
 have t4:∀ n,n<4→tkS (A l) l n=none:=s4z (tkS (A l) l) (fun x hx=>by have:=z x hx;unfold cA at this;omega) fun n m e=>(zsH e).1
 have d4:∀ n,n<4→pdS (A l) l n=none:=s4z (pdS (A l) l) (fun x hx=>by have:=z x hx;unfold cA at this;omega) fun n m e=>(zfv e).1
 have p4:phS (A l) l=none:=by
  cases e:phS (A l) l with
  | none=>rfl
  | some m =>
   have:=z m (zkP e).1
   unfold cA at this
   rw [e,io1] at this
   omega
 have tk:∀ n,(A l).tk n=0:=fun n=>by
  by_cases hn:n<4
  ·apply Classical.byContradiction
   intro q
   have:=t4 n hn
   have s:=(i.s4 n).2.2.1
   by_cases q1:(A l).tk n=1
   ·by_cases q3:(A l).wk n=3
    ·rw [zqK q1 q3] at this;cases this
    ·rw [zlB q1 q3] at this;cases this
   by_cases q2:(A l).tk n=2
   ·rw [zx8 q2] at this;cases this
   ·rw [zwr (show (A l).tk n=3 by omega)] at this;cases this
  ·have:=K.c4
   exact (i.rg n (by omega)).2.2.1
 have pd:∀ n,(A l).pd n=0:=fun n=>by
  by_cases hn:n<4
  ·apply Classical.byContradiction
   intro q
   have:=d4 n hn
   have s:=(i.s4 n).2.2.2
   by_cases q1:(A l).pd n=1
   ·rw [zwb q1] at this;cases this
   ·rw [zwo (show (A l).pd n=2 by omega)] at this;cases this
  ·have:=K.c4
   exact (i.rg n (by omega)).2.2.2.1
 have ph:(A l).ph=0:=by
  apply Classical.byContradiction
  intro q
  have bz:=i.bz
  by_cases q4:(A l).ph=4
  ·have a:=L.pc q4
   have b:=i.ct (by omega) (by omega)
   rw [zvT pd] at b
   omega
  ·unfold phS at p4
   by_cases q1:(A l).ph=1
   ·rw [if_pos q1] at p4;cases p4
   by_cases q2:(A l).ph=2
   ·rw [if_neg q1,if_pos q2] at p4;cases p4
   by_cases q3:(A l).ph=3
   ·rw [if_neg q1,if_neg q2,if_pos q3] at p4;cases p4
   rw [if_neg q1,if_neg q2,if_neg q3,if_pos (show (A l).ph=5 by omega)] at p4
   cases p4
 have bu:(A l).bu=0:=i.bz.1.2 ph
 refine ⟨bu,ph,tk,pd,fun n=>?_⟩
 apply Classical.byContradiction
 intro q
 have:=(i.tw n q (tk n)).1
 omega
theorem Ok.rest (K:Ok c h A W [] v) {n:Nat}(hn:n<c):W n=w00:=K.w0 n hn fun l hl=>(K.qu hl).wk n
end
end Go.Proofs.Ytlgjbfdojbmmgaa
