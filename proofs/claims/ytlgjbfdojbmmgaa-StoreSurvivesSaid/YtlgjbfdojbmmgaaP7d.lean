/- Layer 7: the law ParityRight on typed data. -/
import Derived.Test.YtlgjbfdojbmmgaaP7c
set_option linter.unusedSimpArgs false
set_option linter.unusedVariables false
namespace Go.Proofs.Ytlgjbfdojbmmgaa
open Go.SX
theorem zoR {b:Banks}(hb:BOk b) {i j:Nat}(hi:i<(Banks.Rows b).length) {w:Int}(hw:wd w):BOk (zbL b i j w):=by
 have hrow:=hb.rw _ (zdt hi)
 refine ⟨?_,?_,?_,?_,?_⟩
 ·show ((Banks.Rows b).set i _).length≤10
  rw [List.length_set];exact hb.rl
 ·show ((Banks.Par b).set j _).length≤80
  rw [List.length_set];exact hb.pl
 ·intro r hr
  rcases List.mem_or_eq_of_mem_set hr with q|q
  ·exact hb.el r q
  ·rw [q,List.length_set];exact hb.el _ (zdt hi)
 ·exact zhR hb.rw (zph hrow hw)
 ·have hc:=zgG hb.rw i j
  exact zph hb.pw (zuj (znk hb.pw j) (zuj hc hw))
theorem zqR {b:Banks}(hb:BOk b) (i:Nat):BOk (zc0 b i):=by
 refine ⟨?_,hb.pl,?_,?_,hb.pw⟩
 ·show ((Banks.Rows b).set i _).length≤10
  rw [List.length_set];exact hb.rl
 ·intro r hr
  rcases List.mem_or_eq_of_mem_set hr with q|q
  ·exact hb.el r q
  ·rw [q,List.length_replicate];exact hb.pl
 ·exact zhR hb.rw (fun x hx=>by rw [List.eq_of_mem_replicate hx];exact wd0)
theorem zte {n m:Nat}(hn:n≤8) (hm:m≤64):BOk (newB n m):=by
 refine ⟨?_,?_,?_,?_,?_⟩
 ·show (List.replicate n (List.replicate m (0:Int))).length≤10
  rw [List.length_replicate];omega
 ·show (List.replicate m (0:Int)).length≤80
  rw [List.length_replicate];omega
 ·intro r hr
  rw [List.eq_of_mem_replicate hr,List.length_replicate];omega
 ·intro r hr x hx
  rw [List.eq_of_mem_replicate hr] at hx
  rw [List.eq_of_mem_replicate hx]
  exact wd0
 ·intro x hx
  rw [List.eq_of_mem_replicate hx]
  exact wd0
theorem zug {b:Banks}(hb:BOk b) (k:Int):BOk (zpo b k).1:=by
 unfold zpo
 split
 ·split
  ·exact hb
  ·exact zqR hb _
 ·exact hb
end Go.Proofs.Ytlgjbfdojbmmgaa
