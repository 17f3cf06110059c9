/- Layer 6: pools by the program and by the document; the law PoolRight on typed data. -/
import Derived.Test.YtihchahfnhoapaaPK06
--
set_option linter.unusedSimpArgs false
set_option linter.unusedVariables false
namespace Go.Proofs.Ytihchahfnhoapaa
open Go.SX

/-! ### The document's frames -/
/-! ### Pools -/
def goodP (p : Pool) : Prop := (Pool.Frames p).length ≤ 1000 ∧ ∀ b ∈ Pool.Frames p, b.length ≤ 1000 ∧ ∀ x ∈ b, 0 ≤ x ∧ x < 256
theorem good_small {p : Pool} (h : goodP p) : smallP p := ⟨h.1, fun b hb => (h.2 b hb).1⟩
end Go.Proofs.Ytihchahfnhoapaa
