/- One line of a system, with what is under way of it: what always holds, and that each thing that happens keeps it. No condition. -/
import Derived.Test.YtlgjbfdojbmmgaaPG
set_option linter.unusedSimpArgs false
set_option linter.unusedVariables false
set_option maxHeartbeats 800000
namespace Go.Proofs.Ytlgjbfdojbmmgaa
structure AL where
 st:Nat→Nat
 va:Nat→Int
 wk:Nat→Nat
 tk:Nat→Nat
 tv:Nat→Int
 pd:Nat→Nat
 sh:Nat→Bool
 ow:Nat
 ho:Int
 bu:Nat
 ph:Nat
 fo:Nat
 ac:Nat
 got:Nat
 own:Bool
 kp:Bool
 pv:Int
 sr:Nat
def up {α:Type}(f:Nat→α) (n:Nat) (x:α) (k:Nat):α:=if k=n then x else f k
def z1 (n:Nat):Nat:=if n=0 then 0 else 1
def np (f:Nat→Nat):Nat:=z1 (f 0) + z1 (f 1) + z1 (f 2) + z1 (f 3)
structure Iv (c:Nat) (A:AL) (v:Int):Prop where
 c4:c≤4
 rg:∀ n,c≤n→A.st n=0∧A.wk n=0∧A.tk n=0∧A.pd n=0∧A.sh n=false
 bz:(A.bu=0↔A.ph=0)∧A.bu≤c∧A.ph≤5∧A.ow≤c
 s4:∀ n,A.st n≤4∧A.wk n≤3∧A.tk n≤3∧A.pd n≤2
 t0:∀ n,A.wk n=0→A.tk n=0
 op:∀ n,A.bu=n + 1→A.ph≤4→(A.wk n=1∨A.wk n=2)∧A.tk n=0
 tw:∀ n,A.wk n≠0→A.tk n=0→A.bu=n + 1∧A.ph≤4
 t3:∀ n,A.tk n=3→A.wk n=3∧A.ow≠n + 1
 k1:∀ n,A.wk n=1→A.st n=0
 k2:∀ n,A.wk n=2→A.st n≠2∧A.st n≠3
 k3:∀ n,A.wk n=3→A.st n≠1
 so:∀ n,A.ow=n + 1→A.sh n=false
 o1:∀ n,A.ow=n + 1→2≤A.st n∨A.bu=n + 1∧A.ph≤4
 o2:∀ n,2≤A.st n→A.ow=n + 1∨A.tk n=3∨A.ph=2∧A.fo=n
 f1:A.ph=1→A.ow=A.fo + 1∧A.bu≠A.fo + 1∧∀ n,A.bu=n + 1→A.wk n=1∧A.sh n=true
 f2:A.ph=2→2≤A.st A.fo∧A.tk A.fo≠3∧A.bu≠A.fo + 1∧∀ n,A.bu=n + 1→A.wk n=2
 wr:∀ n,A.bu=n + 1→A.ph≤4→A.wk n=2→A.ow=n + 1∧∀ k,A.sh k=false
 rd:∀ n,A.bu=n + 1→A.ph≤4→A.wk n=1→A.ac=0∧(A.ph=1∨A.own=true∧A.ow=n + 1∧A.ho=v∧(∀ k,A.sh k=false)∨A.own=false∧A.sh n=true)
 s1:∀ n,A.st n=1→A.sh n=true∨A.pd n=1∨A.bu=n + 1∧A.ph≤4∧A.wk n=2
 p1:∀ n,A.pd n≠0→A.ph≤4∧A.bu≠n + 1∧A.bu≠0∧∀ k,A.bu=k + 1→A.wk k=2
 p2:∀ n,A.pd n=2→A.st n≠1
 ct:A.bu≠0→A.ph≤4→A.ac=A.got + np A.pd
 a4:A.ac≤4∧A.got≤4
 vv:∀ n,A.st n≠0→A.tk n≠3→A.va n=v
 hv:A.ow=0→A.ho=v
 ev:∀ n,A.st n=2→A.tk n≠3→A.ho=v
 tq:∀ n,A.tk n=1→A.wk n=3→2≤A.st n→A.tv n=A.va n
 pq:A.ph=3∨A.ph=4→A.kp=false→A.pv=v
 kk:A.ph=3∨A.ph=4→A.kp=true→∀ n,A.bu=n + 1→A.st n=4∧A.wk n=2
 x1:∀ n,A.st n=2∨A.st n=3→A.tk n≠3→A.ph≠3∧A.ph≠4∧∀ k,(k≠n→A.st k=0∨A.tk k=3)∧(A.sh k=true→A.ph=1∧A.bu=k + 1)∧A.pd k=0
theorem zse (A:AL):A.bu=0∨∃ j,A.bu=j + 1:=by
 rcases Nat.eq_zero_or_pos A.bu with h|h
 ·exact .inl h
 ·exact .inr ⟨A.bu - 1,by omega⟩
theorem zv8 (f:Nat→Nat):np f≤4:=by
 unfold np z1
 grind
theorem zvT {f:Nat→Nat}(h:∀ k,f k=0):np f=0:=by simp [np,z1,h]
theorem zup {f:Nat→Nat}{c:Nat}{P Q R S:Nat→Prop}(rg:∀ n,c≤n→P n∧Q n∧R n∧f n=0∧S n) (c4:c≤4) (h:np f=0):∀ k,f k=0:=fun k=>by
 unfold np z1 at h
 by_cases hk:k<4
 ·have:k=0∨k=1∨k=2∨k=3:=by omega
  grind
 ·exact (rg k (by omega)).2.2.2.1
theorem zzi {f:Nat→Nat}{n x:Nat}(h:f n≠0∧x≠0):np (up f n x)=np f:=by
 unfold np z1 up
 grind
theorem zwN {f:Nat→Nat}{n:Nat}(h:n<4) (h0:f n≠0):np (up f n 0) + 1=np f:=by
 have:n=0∨n=1∨n=2∨n=3:=by omega
 unfold np z1 up
 grind
end Go.Proofs.Ytlgjbfdojbmmgaa
