/- Layer 1's reference on typed data: bit by bit. -/
import Derived.Test.YtihchahfnhoapaaPS03c
set_option linter.unusedSimpArgs false
set_option linter.unusedVariables false
namespace Go.Proofs.Ytihchahfnhoapaa
open Go.SX

theorem quo2 (a : Nat) : quoO .u32 (a : Int) 2 = some (wu32 ((a / 2 : Nat) : Int)) := by
  unfold quoO
  rw [if_neg (by omega)]
  rfl
theorem rem2 (a : Nat) : remO (a : Int) 2 = some ((a % 2 : Nat) : Int) := by
  unfold remO
  rw [if_neg (by omega)]
  rfl

theorem bits_to (x y z : Nat) (hx : x < 4294967296) (hy : y < 4294967296) (same : Bool) (hz : ∀ i, z.testBit i = ((same && x.testBit i && y.testBit i) || (!same && (x.testBit i != y.testBit i)))) :
    r01_bits (x : Int) (y : Int) same = some ((z % 4294967296 : Nat) : Int) := by
  have h := loop_to (f := r01_bits_L1 same) (fun i => (((x / 2 ^ i : Nat) : Int), ((y / 2 ^ i : Nat) : Int), ((z % 2 ^ i : Nat) : Int), ((2 ^ i % 4294967296 : Nat) : Int), (i : Int))) (n := 0) (m := 32) (by omega) (fun i _ hi => by
    have hlt : (i : Int) < 32 := by omega
    have hw : w64 ((i : Int) + 1) = ((i + 1 : Nat) : Int) := by rw [w64_id (by omega) (by omega)]; omega
    have hpow : 2 ^ i < 4294967296 := by
      have : 2 ^ i < 2 ^ 32 := Nat.pow_lt_pow_right (by omega) hi
      simpa using this
    have e1 : ∀ a : Nat, a < 4294967296 → wu32 ((a / 2 ^ i / 2 : Nat) : Int) = ((a / 2 ^ (i + 1) : Nat) : Int) := fun a ha => by
      have hh : a / 2 ^ i / 2 = a / 2 ^ (i + 1) := by rw [Nat.div_div_eq_div_mul]; rfl
      have hle : a / 2 ^ (i + 1) ≤ a := Nat.div_le_self _ _
      rw [hh]
      generalize a / 2 ^ (i + 1) = t at hle ⊢
      exact wu32_id (by omega) (by omega)
    have e2 : wu32 (((2 ^ i % 4294967296 : Nat) : Int) * 2) = ((2 ^ (i + 1) % 4294967296 : Nat) : Int) := by
      rw [Nat.pow_succ, wu32_mod]
      omega
    have e3 : ∀ a : Nat, decide (((a / 2 ^ i % 2 : Nat) : Int) = 1) = a.testBit i := fun a => by
      rw [Nat.testBit_eq_decide_div_mod_eq]
      by_cases h : a / 2 ^ i % 2 = 1
      · simp [h]
      · have : a / 2 ^ i % 2 = 0 := by omega
        simp [this]
    have e4 : (bif bif same then bif x.testBit i then y.testBit i || ((!same) && (!decide (x.testBit i = y.testBit i))) else (!same) && (!decide (x.testBit i = y.testBit i)) else (!same) && (!decide (x.testBit i = y.testBit i)) then wu32 (((z % 2 ^ i : Nat) : Int) + ((2 ^ i % 4294967296 : Nat) : Int)) else ((z % 2 ^ i : Nat) : Int)) = ((z % 2 ^ (i + 1) : Nat) : Int) := by
      have hb : (bif same then bif x.testBit i then y.testBit i || ((!same) && (!decide (x.testBit i = y.testBit i))) else (!same) && (!decide (x.testBit i = y.testBit i)) else (!same) && (!decide (x.testBit i = y.testBit i))) = z.testBit i := by
        rw [hz]
        cases same <;> cases x.testBit i <;> cases y.testBit i <;> rfl
      rw [hb, Nat.mod_pow_succ, Nat.testBit_eq_decide_div_mod_eq]
      have hlt : z % 2 ^ i < 2 ^ i := Nat.mod_lt _ (Nat.pow_pos (by omega))
      by_cases h : z / 2 ^ i % 2 = 1
      · have hp2 : 2 ^ (i + 1) ≤ 2 ^ 32 := Nat.pow_le_pow_right (by omega) (by omega)
        rw [Nat.pow_succ] at hp2
        simp only [h, decide_true, cond_true, Nat.mul_one]
        rw [wu32_mod]
        omega
      · have : z / 2 ^ i % 2 = 0 := by omega
        simp [this]
    unfold r01_bits_L1
    simp only [hlt, decide_true, if_true, rem2, quo2, Option.bind_some, e3, e4, e2, e1 x hx, e1 y hy, hw])
  have h0 : (((x / 2 ^ 0 : Nat) : Int), ((y / 2 ^ 0 : Nat) : Int), ((z % 2 ^ 0 : Nat) : Int), ((2 ^ 0 % 4294967296 : Nat) : Int), ((0 : Nat) : Int)) = ((x : Int), (y : Int), (0 : Int), (1 : Int), (0 : Int)) := by simp
  rw [h0] at h
  have he : r01_bits_L1 same (((x / 2 ^ 32 : Nat) : Int), ((y / 2 ^ 32 : Nat) : Int), ((z % 2 ^ 32 : Nat) : Int), ((2 ^ 32 % 4294967296 : Nat) : Int), ((32 : Nat) : Int)) = some (.inr ((z % 2 ^ 32 : Nat) : Int)) := by
    unfold r01_bits_L1
    simp
  unfold r01_bits
  rw [h, loop_out he]
  rfl

theorem and_is (x y : Nat) (hx : x < 4294967296) (hy : y < 4294967296) : bAnd .u32 (x : Int) (y : Int) = ((x &&& y : Nat) : Int) := by
  have h : (BitVec.ofInt (IntKind.bits .u32) (x : Int) &&& BitVec.ofInt (IntKind.bits .u32) (y : Int)).toNat = x &&& y := by
    have e1 : BitVec.ofInt (IntKind.bits .u32) (x : Int) = BitVec.ofNat 32 x := BitVec.ofInt_natCast 32 x
    have e2 : BitVec.ofInt (IntKind.bits .u32) (y : Int) = BitVec.ofNat 32 y := BitVec.ofInt_natCast 32 y
    rw [e1, e2]
    show (BitVec.ofNat 32 x &&& BitVec.ofNat 32 y).toNat = _
    rw [BitVec.toNat_and, BitVec.toNat_ofNat, BitVec.toNat_ofNat, Nat.mod_eq_of_lt (by simpa using hx), Nat.mod_eq_of_lt (by simpa using hy)]
  have hl : x &&& y ≤ x := Nat.and_le_left
  unfold bAnd
  rw [h]
  exact wu32_id (by omega) (by omega)
theorem xor_lt (x y : Nat) (hx : x < 4294967296) (hy : y < 4294967296) : x ^^^ y < 4294967296 := Nat.xor_lt_two_pow (n := 32) (by simpa using hx) (by simpa using hy)
theorem xor_is (x y : Nat) (hx : x < 4294967296) (hy : y < 4294967296) : bXor .u32 (x : Int) (y : Int) = ((x ^^^ y : Nat) : Int) := by
  have h : (BitVec.ofInt (IntKind.bits .u32) (x : Int) ^^^ BitVec.ofInt (IntKind.bits .u32) (y : Int)).toNat = x ^^^ y := by
    have e1 : BitVec.ofInt (IntKind.bits .u32) (x : Int) = BitVec.ofNat 32 x := BitVec.ofInt_natCast 32 x
    have e2 : BitVec.ofInt (IntKind.bits .u32) (y : Int) = BitVec.ofNat 32 y := BitVec.ofInt_natCast 32 y
    rw [e1, e2]
    show (BitVec.ofNat 32 x ^^^ BitVec.ofNat 32 y).toNat = _
    rw [BitVec.toNat_xor, BitVec.toNat_ofNat, BitVec.toNat_ofNat, Nat.mod_eq_of_lt (by simpa using hx), Nat.mod_eq_of_lt (by simpa using hy)]
  have hl := xor_lt x y hx hy
  unfold bXor
  rw [h]
  exact wu32_id (by omega) (by omega)

theorem r01_Do_eq (op : Int) {a b : Int} (ha : 0 ≤ a ∧ a < 4294967296) (hb : 0 ≤ b ∧ b < 4294967296) : r01_Do op a b = some (word_Do op a b) := by
  obtain ⟨x, rfl⟩ : ∃ x : Nat, a = (x : Int) := ⟨a.toNat, by omega⟩
  obtain ⟨y, rfl⟩ : ∃ y : Nat, b = (y : Int) := ⟨b.toNat, by omega⟩
  have hx : x < 4294967296 := by omega
  have hy : y < 4294967296 := by omega
  have ea : wu64 (x : Int) = x := wu64_id (by omega) (by omega)
  have eb : wu64 (y : Int) = y := wu64_id (by omega) (by omega)
  have hrem : ∀ n : Int, 0 ≤ n → remO n 4294967296 = some (n % 4294967296) := fun n hn => (rem_lt hn (by omega)).1
  have hAnd := and_is x y hx hy
  have hXor := xor_is x y hx hy
  have hAndl : x &&& y ≤ x := Nat.and_le_left
  have hXorl := xor_lt x y hx hy
  unfold r01_Do word_Do
  simp only [ea, eb]
  by_cases h2 : op = 2
  · have e1 : wu64 ((x : Int) + y) = x + y := wu64_id (by omega) (by omega)
    simp [h2, e1, hrem _ (show (0 : Int) ≤ x + y by omega), wu32_mod]
  · by_cases h3 : op = 3
    · have e1 : wu64 ((x : Int) + 4294967296) = x + 4294967296 := wu64_id (by omega) (by omega)
      have e2 : wu64 ((x : Int) + 4294967296 - y) = x + 4294967296 - y := wu64_id (by omega) (by omega)
      have e3 : wu32 (((x : Int) + 4294967296 - y) % 4294967296) = wu32 ((x : Int) - y) := by
        rw [wu32_mod, wu32_mod]; omega
      simp only [h3, e1, e2, hrem _ (show (0 : Int) ≤ x + 4294967296 - y by omega)]
      simp [e3]
    · by_cases h4 : op = 4
      · have hxy : (x : Int) * y < 18446744073709551616 := by
          have h5 : x * y ≤ 4294967295 * 4294967295 := Nat.mul_le_mul (by omega) (by omega)
          have h6 : ((x * y : Nat) : Int) ≤ ((4294967295 * 4294967295 : Nat) : Int) := by exact_mod_cast h5
          rw [Int.natCast_mul] at h6
          simp at h6
          omega
        have hxy0 : 0 ≤ (x : Int) * y := Int.mul_nonneg (by omega) (by omega)
        have e1 : wu64 ((x : Int) * y) = x * y := wu64_id hxy0 hxy
        have e3 : wu32 (((x : Int) * y) % 4294967296) = wu32 ((x : Int) * y) := by
          rw [wu32_mod, wu32_mod]; omega
        simp only [h4, e1, hrem _ hxy0]
        simp [e3]
      · by_cases h5 : op = 5
        · have hB := bits_to x y (x &&& y) hx hy true (fun i => by rw [Nat.testBit_and]; simp)
          rw [Nat.mod_eq_of_lt (by omega)] at hB
          simp [h5, hB, hAnd]
        · by_cases h6 : op = 6
          · have hB := bits_to x y (x ^^^ y) hx hy false (fun i => by rw [Nat.testBit_xor]; simp)
            rw [Nat.mod_eq_of_lt hXorl] at hB
            simp [h6, hB, hXor]
          · by_cases h7 : op = 7
            · by_cases hxy : (x : Int) = (y : Int) <;> simp [h7, hxy, word_truth]
            · by_cases h8 : op = 8
              · by_cases hxy : (x : Int) < (y : Int) <;> simp [h8, hxy, word_truth]
              · simp [h2, h3, h4, h5, h6, h7, h8]

end Go.Proofs.Ytihchahfnhoapaa
