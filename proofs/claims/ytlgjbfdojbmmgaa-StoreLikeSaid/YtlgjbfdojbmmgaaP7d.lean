/- Layer 7: the law ParityRight on typed data. -/
import Derived.Test.YtlgjbfdojbmmgaaP7c
set_option linter.unusedSimpArgs false
set_option linter.unusedVariables false
namespace Go.Proofs.Ytlgjbfdojbmmgaa
open Go.SX
theorem zmU {b:Banks}(hb:BOk b) {i j:Nat}(hi:i<(Banks.Rows b).length) {w:Int}(hw:wd w):BOk (zbz b i j w):=by
 have hrow:=hb.rw _ (zdh hi)
 refine ⟨?_,?_,?_,?_,?_⟩
 ·show ((Banks.Rows b).set i _).length≤10
  rw [List.length_set];exact hb.rl
 ·show ((Banks.Par b).set j _).length≤80
  rw [List.length_set];exact hb.pl
 ·intro r hr
  rcases List.mem_or_eq_of_mem_set hr with q|q
  ·exact hb.el r q
  ·rw [q,List.length_set];exact hb.el _ (zdh hi)
 ·exact zkS hb.rw (zpB hrow hw)
 ·have hc:=zhw hb.rw i j
  exact zpB hb.pw (ztu (zm1 hb.pw j) (ztu hc hw))
theorem zsy {n m:Nat}(hn:n≤8) (hm:m≤64):BOk (newB n m):=by
 refine ⟨?_,?_,?_,?_,?_⟩
 ·show (List.replicate n (List.replicate m (0:Int))).length≤10
  rw [List.length_replicate];omega
 ·show (List.replicate m (0:Int)).length≤80
  rw [List.length_replicate];omega
 ·intro r hr
  rw [List.eq_of_mem_replicate hr,List.length_replicate];omega
 ·intro r hr x hx
  rw [List.eq_of_mem_replicate hr] at hx
  rw [List.eq_of_mem_replicate hx]
  exact wd0
 ·intro x hx
  rw [List.eq_of_mem_replicate hx]
  exact wd0
end Go.Proofs.Ytlgjbfdojbmmgaa
