/- The program's Right of a log. -/
import Derived.Test.YtlgjbfdojbmmgaaU1
set_option linter.unusedSimpArgs false
set_option linter.unusedVariables false
namespace Go.Proofs.Ytlgjbfdojbmmgaa
open Go.SX
theorem zcV (l:Log) (hl:(Log.Lst l).length≤1000):zcc l=some (zaq l):=by
 unfold zcc zaq
 by_cases hz:zbL l
 ·have hc:((decide ((List.length (Log.Mem l):Int)<(1:Int)))||((decide ((64:Int)<(List.length (Log.Mem l):Int)))||((!(zaK (Log.Span l) (1099511627776:Int)))||(decide ((256:Int)<(List.length (Log.Lst l):Int))))))=false:=by
   obtain ⟨h1,h2,h3,h4,h5⟩:=hz
   simp [zaK]
   omega
  rw [hc]
  simp only [wA0,if_false,decide_eq_true hz,Bool.true_and]
  exact zrR l hl
 ·have hc:((decide ((List.length (Log.Mem l):Int)<(1:Int)))||((decide ((64:Int)<(List.length (Log.Mem l):Int)))||((!(zaK (Log.Span l) (1099511627776:Int)))||(decide ((256:Int)<(List.length (Log.Lst l):Int))))))=true:=by
   unfold zbL at hz
   simp [zaK]
   omega
  rw [hc]
  simp [hz]
end Go.Proofs.Ytlgjbfdojbmmgaa
