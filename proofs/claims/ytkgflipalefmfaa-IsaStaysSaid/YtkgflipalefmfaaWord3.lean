/- The words of layer 1: any operation, as the document says; places, bytes. -/
import Derived.Test.YtkgflipalefmfaaWord2
namespace Go.Proofs.Ytkgflipalefmfaa
open Go.SX

theorem truth_is (b : Bool) : CA 27 [.bool b] = some [.int .u32 (if b then 1 else 0)] := by
  rw [call_of t27]
  cases b <;> simp [T27, evL_ite, evL_jmp, gets, At.get]

def wordAns (x y : Nat) (op : Int) : List D :=
  if op = 2 then [.int .u32 (u32 ((x : Int) + y)), .bool true] else if op = 3 then [.int .u32 (u32 ((x : Int) - y)), .bool true] else if op = 4 then [.int .u32 (u32 ((x : Int) * y)), .bool true]
  else if op = 5 then [.int .u32 ((x &&& y : Nat) : Int), .bool true] else if op = 6 then [.int .u32 ((x ^^^ y : Nat) : Int), .bool true]
  else if op = 7 then [.int .u32 (if x = y then 1 else 0), .bool true] else if op = 8 then [.int .u32 (if x < y then 1 else 0), .bool true] else [.int .u32 0, .bool false]

theorem u32_small (x : Nat) (hx : x < 4294967296) : u32 (x : Int) = x := by unfold u32; omega
theorem u32_id {n : Int} (h1 : 0 ≤ n) (h2 : n < 4294967296) : u32 n = n := by unfold u32; omega

theorem and_is (x y : Nat) (hx : x < 4294967296) (hy : y < 4294967296) : IntKind.wrap .u32 ((BitVec.ofInt (IntKind.bits .u32) (x : Int) &&& BitVec.ofInt (IntKind.bits .u32) (y : Int)).toNat) = ((x &&& y : Nat) : Int) := by
  have h : (BitVec.ofInt (IntKind.bits .u32) (x : Int) &&& BitVec.ofInt (IntKind.bits .u32) (y : Int)).toNat = x &&& y := by
    have e1 : BitVec.ofInt (IntKind.bits .u32) (x : Int) = BitVec.ofNat 32 x := BitVec.ofInt_natCast 32 x
    have e2 : BitVec.ofInt (IntKind.bits .u32) (y : Int) = BitVec.ofNat 32 y := BitVec.ofInt_natCast 32 y
    rw [e1, e2]
    show (BitVec.ofNat 32 x &&& BitVec.ofNat 32 y).toNat = _
    rw [BitVec.toNat_and, BitVec.toNat_ofNat, BitVec.toNat_ofNat, Nat.mod_eq_of_lt (by simpa using hx), Nat.mod_eq_of_lt (by simpa using hy)]
  rw [h, wrap32, u32_small _ (Nat.lt_of_le_of_lt Nat.and_le_left hx)]
theorem xor_lt (x y : Nat) (hx : x < 4294967296) (hy : y < 4294967296) : x ^^^ y < 4294967296 := Nat.xor_lt_two_pow (n := 32) (by simpa using hx) (by simpa using hy)
theorem xor_is (x y : Nat) (hx : x < 4294967296) (hy : y < 4294967296) : IntKind.wrap .u32 ((BitVec.ofInt (IntKind.bits .u32) (x : Int) ^^^ BitVec.ofInt (IntKind.bits .u32) (y : Int)).toNat) = ((x ^^^ y : Nat) : Int) := by
  have h : (BitVec.ofInt (IntKind.bits .u32) (x : Int) ^^^ BitVec.ofInt (IntKind.bits .u32) (y : Int)).toNat = x ^^^ y := by
    have e1 : BitVec.ofInt (IntKind.bits .u32) (x : Int) = BitVec.ofNat 32 x := BitVec.ofInt_natCast 32 x
    have e2 : BitVec.ofInt (IntKind.bits .u32) (y : Int) = BitVec.ofNat 32 y := BitVec.ofInt_natCast 32 y
    rw [e1, e2]
    show (BitVec.ofNat 32 x ^^^ BitVec.ofNat 32 y).toNat = _
    rw [BitVec.toNat_xor, BitVec.toNat_ofNat, BitVec.toNat_ofNat, Nat.mod_eq_of_lt (by simpa using hx), Nat.mod_eq_of_lt (by simpa using hy)]
  rw [h, wrap32, u32_small _ (xor_lt x y hx hy)]

theorem do_is (x y : Nat) (hx : x < 4294967296) (hy : y < 4294967296) (op : Int) : CA 11 [.int .i64 op, .int .u32 x, .int .u32 y] = some (wordAns x y op) := by
  rw [call_of t11]
  unfold wordAns
  have ha := and_is x y hx hy
  have hb := xor_is x y hx hy
  simp at ha hb
  by_cases h2 : op = 2
  · subst h2; simp [T11, evL_prim, evL_ite, evL_jmp, gets, At.get, Prim.run, binD, binI, wrap32]
  by_cases h3 : op = 3
  · subst h3; simp [T11, evL_prim, evL_ite, evL_jmp, gets, At.get, Prim.run, binD, binI, wrap32]
  by_cases h4 : op = 4
  · subst h4; simp [T11, evL_prim, evL_ite, evL_jmp, gets, At.get, Prim.run, binD, binI, wrap32]
  by_cases h5 : op = 5
  · subst h5; simp [T11, evL_prim, evL_ite, evL_jmp, gets, At.get, Prim.run, binD, binI, ha]
  by_cases h6 : op = 6
  · subst h6; simp [T11, evL_prim, evL_ite, evL_jmp, gets, At.get, Prim.run, binD, binI, hb]
  have e2 : (op == 2) = false := by simp [h2]
  have e3 : (op == 3) = false := by simp [h3]
  have e4 : (op == 4) = false := by simp [h4]
  have e5 : (op == 5) = false := by simp [h5]
  have e6 : (op == 6) = false := by simp [h6]
  by_cases h7 : op = 7
  · subst h7
    by_cases hxy : x = y
    · subst hxy
      simp [T11, evL_prim, evL_ite, evL_jmp, evL_call, gets, At.get, Prim.run, binD, binI, truth_is]
    · have e : ((x : Int) == (y : Int)) = false := by simp; omega
      simp [T11, evL_prim, evL_ite, evL_jmp, evL_call, gets, At.get, Prim.run, binD, binI, truth_is, hxy, e]
  have e7 : (op == 7) = false := by simp [h7]
  by_cases h8 : op = 8
  · subst h8
    by_cases hxy : x < y <;> simp [T11, evL_prim, evL_ite, evL_jmp, evL_call, gets, At.get, Prim.run, binD, binI, truth_is, hxy]
  have e8 : (op == 8) = false := by simp [h8]
  simp [T11, evL_prim, evL_ite, evL_jmp, gets, At.get, Prim.run, binD, binI, h2, h3, h4, h5, h6, h7, h8, e2, e3, e4, e5, e6, e7, e8]

theorem wrap64' (n : Int) (h1 : 0 ≤ n) (h2 : n < 18446744073709551616) : IntKind.wrap .u64 n = n := by rw [wrap64]; omega

theorem refdo_is (x y : Nat) (hx : x < 4294967296) (hy : y < 4294967296) (op : Int) : CA 12 [.int .i64 op, .int .u32 x, .int .u32 y] = some (wordAns x y op) := by
  rw [call_of t12]
  unfold wordAns
  have ex : IntKind.wrap .u64 (x : Int) = x := wrap64' _ (by omega) (by omega)
  have ey : IntKind.wrap .u64 (y : Int) = y := wrap64' _ (by omega) (by omega)
  by_cases h2 : op = 2
  · subst h2
    have e : IntKind.wrap .u64 ((x : Int) + y) = x + y := wrap64' _ (by omega) (by omega)
    have e' : u32 (((x : Int) + y).tmod 4294967296) = u32 ((x : Int) + y) := by
      rw [Int.tmod_eq_emod_of_nonneg (by omega)]; unfold u32; omega
    simp [T12, evL_prim, evL_ite, evL_jmp, gets, At.get, Prim.run, binD, binI, wrap32, ex, ey, e, e']
  by_cases h3 : op = 3
  · subst h3
    have e : IntKind.wrap .u64 ((x : Int) + 4294967296) = x + 4294967296 := wrap64' _ (by omega) (by omega)
    have e2 : IntKind.wrap .u64 ((x : Int) + 4294967296 - y) = x + 4294967296 - y := wrap64' _ (by omega) (by omega)
    have e' : u32 (((x : Int) + 4294967296 - y).tmod 4294967296) = u32 ((x : Int) - y) := by
      rw [Int.tmod_eq_emod_of_nonneg (by omega)]; unfold u32; omega
    simp [T12, evL_prim, evL_ite, evL_jmp, gets, At.get, Prim.run, binD, binI, wrap32, ex, ey, e, e2, e']
  by_cases h4 : op = 4
  · subst h4
    have hm : (x : Int) * y < 18446744073709551616 := by
      have : x * y ≤ 4294967295 * 4294967295 := Nat.mul_le_mul (by omega) (by omega)
      have : ((x * y : Nat) : Int) ≤ 18446744065119617025 := by omega
      rw [Int.natCast_mul] at this
      omega
    have hm0 : 0 ≤ (x : Int) * y := by
      rw [← Int.natCast_mul]; omega
    have e : IntKind.wrap .u64 ((x : Int) * y) = x * y := wrap64' _ hm0 hm
    have e' : u32 (((x : Int) * y).tmod 4294967296) = u32 ((x : Int) * y) := by
      rw [Int.tmod_eq_emod_of_nonneg hm0]; unfold u32; omega
    simp [T12, evL_prim, evL_ite, evL_jmp, gets, At.get, Prim.run, binD, binI, wrap32, ex, ey, e, e']
  by_cases h5 : op = 5
  · subst h5
    have hc := bits_is x y (x &&& y) hx hy true (fun i => by simp [Nat.testBit_and])
    rw [Nat.mod_eq_of_lt (Nat.lt_of_le_of_lt Nat.and_le_left hx)] at hc
    simp [T12, evL_prim, evL_ite, evL_jmp, evL_call, gets, At.get, Prim.run, binD, binI, ex, ey, hc]
  by_cases h6 : op = 6
  · subst h6
    have hc := bits_is x y (x ^^^ y) hx hy false (fun i => by simp [Nat.testBit_xor])
    rw [Nat.mod_eq_of_lt (xor_lt x y hx hy)] at hc
    simp [T12, evL_prim, evL_ite, evL_jmp, evL_call, gets, At.get, Prim.run, binD, binI, ex, ey, hc]
  have e2 : (op == 2) = false := by simp [h2]
  have e3 : (op == 3) = false := by simp [h3]
  have e4 : (op == 4) = false := by simp [h4]
  have e5 : (op == 5) = false := by simp [h5]
  have e6 : (op == 6) = false := by simp [h6]
  by_cases h7 : op = 7
  · subst h7
    by_cases hxy : x = y
    · subst hxy
      simp [T12, evL_prim, evL_ite, evL_jmp, evL_sub, gets, At.get, Prim.run, binD, binI, ex]
    · have e : ((x : Int) == (y : Int)) = false := by simp; omega
      simp [T12, evL_prim, evL_ite, evL_jmp, evL_sub, gets, At.get, Prim.run, binD, binI, ex, ey, hxy, e]
  have e7 : (op == 7) = false := by simp [h7]
  by_cases h8 : op = 8
  · subst h8
    by_cases hxy : x < y <;> simp [T12, evL_prim, evL_ite, evL_jmp, evL_sub, gets, At.get, Prim.run, binD, binI, ex, ey, hxy]
  have e8 : (op == 8) = false := by simp [h8]
  simp [T12, evL_prim, evL_ite, evL_jmp, evL_sub, gets, At.get, Prim.run, binD, binI, ex, ey, h2, h3, h4, h5, h6, h7, h8, e2, e3, e4, e5, e6, e7, e8]

end Go.Proofs.Ytkgflipalefmfaa
