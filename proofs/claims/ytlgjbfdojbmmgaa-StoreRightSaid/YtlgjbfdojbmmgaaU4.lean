/- Layer 11: right logs stay right. No condition. -/
import Derived.Test.YtlgjbfdojbmmgaaU3
set_option linter.unusedSimpArgs false
set_option linter.unusedVariables false
namespace Go.Proofs.Ytlgjbfdojbmmgaa
open Go.SX
structure RightP (l:Log):Prop where
 size:zd8 l
 each:∀ u∈Log.Lst l,0≤Undo.Span u∧Undo.Span u≤Log.Span l∧0≤Undo.At u∧Undo.At u<((Log.Mem l).length:Int)
 le:(Log.Lst l).Pairwise fun a b=>Undo.Span a≤Undo.Span b
 ne:(Log.Lst l).Pairwise fun a b=>¬ keyU a=keyU b
end Go.Proofs.Ytlgjbfdojbmmgaa
