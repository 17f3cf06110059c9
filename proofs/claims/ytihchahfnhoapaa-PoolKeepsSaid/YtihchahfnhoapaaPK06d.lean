/- Layer 6: the law PoolRight on typed data. -/
import Derived.Test.YtihchahfnhoapaaPK06c
set_option linter.unusedSimpArgs false
set_option linter.unusedVariables false
namespace Go.Proofs.Ytihchahfnhoapaa
open Go.SX

theorem shl_bit' (k : Nat) (hk : k < 8) : shlO .u8 (1 : Int) (k : Int) = some ((2 ^ k : Nat) : Int) := by
  have h : ∀ k, k < 8 → shlO .u8 (1 : Int) ((k : Nat) : Int) = some ((2 ^ k : Nat) : Int) := by decide
  exact h k hk
theorem quo8' (i : Nat) (hi : i < 152) : quoO .i64 (i : Int) (8 : Int) = some ((i / 8 : Nat) : Int) := by
  unfold quoO
  rw [if_neg (by omega), Int.tdiv_eq_ediv_of_nonneg (by omega)]
  have h1 : ((i : Int) / (8 : Int)) = ((i / 8 : Nat) : Int) := (Int.natCast_ediv i 8).symm
  rw [h1]
  exact congrArg some (w64_nat (by omega))
end Go.Proofs.Ytihchahfnhoapaa
