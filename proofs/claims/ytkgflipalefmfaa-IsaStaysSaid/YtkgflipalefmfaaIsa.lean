/- Layer 2: what an instruction may be. -/
import Derived.Test.YtkgflipalefmfaaWord5
set_option linter.unusedSimpArgs false
set_option linter.unusedVariables false
namespace Go.Proofs.Ytkgflipalefmfaa
open Go.SX

def uA (op : Int) : Bool := (decide (1 ≤ op) && decide (op ≤ 11)) || op == 14 || op == 15
def uB (op : Int) : Bool := decide (2 ≤ op) && decide (op ≤ 11)
def uC (op : Int) : Bool := (decide (2 ≤ op) && decide (op ≤ 8)) || op == 11
def uK (op : Int) : Bool := op == 1 || op == 13 || op == 14
def regB (n : Int) : Bool := decide (n ≥ 0) && decide (n < 8)
def rgB (n : Int) (u : Bool) : Bool := if u then regB n else n == 0
def goalB (k many : Int) : Bool := decide (many > 0) && decide (k < many)
def mayB (op a b c k many : Int) : Bool := !decide (op < 1) && !decide (op > 16) && rgB a (uA op) && rgB b (uB op) && rgB c (uC op) && (op == 1 || (if uK op then goalB k many else k == 0))
def insD (op a b c k : Int) : D := .agg [.int .i64 op, .int .i64 a, .int .i64 b, .int .i64 c, .int .u32 k]

theorem awake2 : CA 18 [] = some [.bool true] := call_now 60 10 (by kernel_rfl)

theorem sixteen (op : Int) : op = 1 ∨ op = 2 ∨ op = 3 ∨ op = 4 ∨ op = 5 ∨ op = 6 ∨ op = 7 ∨ op = 8 ∨ op = 9 ∨ op = 10 ∨ op = 11 ∨ op = 12 ∨ op = 13 ∨ op = 14 ∨ op = 15 ∨ op = 16 ∨ op < 1 ∨ op > 16 := by omega
theorem other (op : Int) (h : op < 1 ∨ op > 16) : ∀ n : Int, 1 ≤ n → n ≤ 16 → (op == n) = false := by
  intro n h1 h2
  simp only [beq_eq_false_iff_ne, ne_eq]
  omega

theorem uses_is (op : Int) : CA 36 [.int .i64 op] = some [.int .i64 ((if uA op then 1 else 0) + (if uB op then 2 else 0) + (if uC op then 4 else 0) + (if uK op then 8 else 0))] := by
  rcases sixteen op with rfl | rfl | rfl | rfl | rfl | rfl | rfl | rfl | rfl | rfl | rfl | rfl | rfl | rfl | rfl | rfl | h | h
  · exact call_now 20 5 (by kernel_rfl)
  · exact call_now 20 5 (by kernel_rfl)
  · exact call_now 20 5 (by kernel_rfl)
  · exact call_now 20 5 (by kernel_rfl)
  · exact call_now 20 5 (by kernel_rfl)
  · exact call_now 20 5 (by kernel_rfl)
  · exact call_now 20 5 (by kernel_rfl)
  · exact call_now 20 5 (by kernel_rfl)
  · exact call_now 20 5 (by kernel_rfl)
  · exact call_now 20 5 (by kernel_rfl)
  · exact call_now 20 5 (by kernel_rfl)
  · exact call_now 20 5 (by kernel_rfl)
  · exact call_now 20 5 (by kernel_rfl)
  · exact call_now 20 5 (by kernel_rfl)
  · exact call_now 20 5 (by kernel_rfl)
  · exact call_now 20 5 (by kernel_rfl)
  · have e := other op (.inl h)
    have u1 : uA op = false := by simp [uA, e]; omega
    have u2 : uB op = false := by simp [uB]; omega
    have u3 : uC op = false := by simp [uC, e]; omega
    have u4 : uK op = false := by simp [uK, e]
    rw [call_of t36]
    simp [T36, evL_prim, evL_ite, evL_jmp, evL_sub, gets, At.get, Prim.run, binD, binI, e, u1, u2, u3, u4]
  · have e := other op (.inr h)
    have u1 : uA op = false := by simp [uA, e]; omega
    have u2 : uB op = false := by simp [uB]; omega
    have u3 : uC op = false := by simp [uC, e]; omega
    have u4 : uK op = false := by simp [uK, e]
    rw [call_of t36]
    simp [T36, evL_prim, evL_ite, evL_jmp, evL_sub, gets, At.get, Prim.run, binD, binI, e, u1, u2, u3, u4]

theorem Uses_is (op : Int) : CA 26 [.int .i64 op] = some [.bool (uA op), .bool (uB op), .bool (uC op), .bool (uK op)] := by
  rw [call_of t26]
  have h := uses_is op
  generalize uA op = A at h ⊢
  generalize uB op = B at h ⊢
  generalize uC op = C at h ⊢
  generalize uK op = K at h ⊢
  cases A <;> cases B <;> cases C <;> cases K <;> (simp at h; simp [T26, evL_prim, evL_jmp, evL_call, gets, At.get, Prim.run, binD, binI, h] <;> decide)

theorem reg_is (n : Int) : CA 32 [.int .i64 n] = some [.bool (regB n)] := by
  rw [call_of t32]
  unfold regB
  cases e1 : decide (n ≥ 0) with
  | false => simp [T32, evL_prim, evL_ite, evL_jmp, evL_call, evL_sub, gets, At.get, Prim.run, binD, binI, unD, e1]
  | true =>
    simp [T32, evL_prim, evL_ite, evL_jmp, evL_call, evL_sub, gets, At.get, Prim.run, binD, binI, unD, e1]

theorem register_is (n : Int) (u : Bool) : CA 31 [.int .i64 n, .bool u] = some [.bool (rgB n u)] := by
  rw [call_of t31]
  unfold rgB regB
  cases u with
  | false => simp [T31, evL_prim, evL_ite, evL_jmp, evL_call, evL_sub, gets, At.get, Prim.run, binD, binI, unD]
  | true =>
    cases e1 : decide (n ≥ 0) with
    | false => simp [T31, evL_prim, evL_ite, evL_jmp, evL_call, evL_sub, gets, At.get, Prim.run, binD, binI, unD, e1]
    | true =>
      simp [T31, evL_prim, evL_ite, evL_jmp, evL_call, evL_sub, gets, At.get, Prim.run, binD, binI, unD, e1]

theorem goal_is (k many : Int) (h1 : 0 ≤ k) (h2 : k ≤ 4294967295) : CA 33 [.int .u32 k, .int .i64 many] = some [.bool (goalB k many)] := by
  rw [call_of t33]
  unfold goalB
  have e : IntKind.wrap .i64 k = k := wrapS64 (by omega) (by omega)
  cases e1 : decide (many > 0) with
  | false => simp [T33, evL_prim, evL_ite, evL_jmp, evL_call, evL_sub, gets, At.get, Prim.run, binD, binI, unD, e, e1]
  | true =>
    simp [T33, evL_prim, evL_ite, evL_jmp, evL_call, evL_sub, gets, At.get, Prim.run, binD, binI, unD, e, e1]

theorem may_is (op a b c k many : Int) (h1 : 0 ≤ k) (h2 : k ≤ 4294967295) (h3 : many ≤ 9223372036854775807) : CA 22 [insD op a b c k, .int .i64 many] = some [.bool (mayB op a b c k many)] := by
  rw [call_of t22]
  have hU := Uses_is op
  have hA := register_is a (uA op)
  have hB := register_is b (uB op)
  have hC := register_is c (uC op)
  have ek : IntKind.wrap .u64 k = k := wrap64' _ (by omega) (by omega)
  have em : many > 0 → IntKind.wrap .u64 many = many := fun h => wrap64' _ (by omega) (by omega)
  unfold mayB goalB insD
  generalize uA op = A at hU hA ⊢
  generalize uB op = B at hU hB ⊢
  generalize uC op = C at hU hC ⊢
  generalize uK op = K at hU ⊢
  generalize rgB a A = RA at hA ⊢
  generalize rgB b B = RB at hB ⊢
  generalize rgB c C = RC at hC ⊢
  cases e1 : decide (op < 1) with
  | true => simp [T22, evL_prim, evL_ite, evL_jmp, evL_call, evL_sub, gets, At.get, Prim.run, binD, binI, unD, hU, hA, hB, hC, ek, e1]
  | false =>
    cases e2 : decide (op > 16) with
    | true => simp [T22, evL_prim, evL_ite, evL_jmp, evL_call, evL_sub, gets, At.get, Prim.run, binD, binI, unD, hU, hA, hB, hC, ek, e1, e2]
    | false =>
      cases eA : RA with
      | false => simp [T22, evL_prim, evL_ite, evL_jmp, evL_call, evL_sub, gets, At.get, Prim.run, binD, binI, unD, hU, hA, hB, hC, ek, e1, e2, eA]
      | true =>
        cases eB : RB with
        | false => simp [T22, evL_prim, evL_ite, evL_jmp, evL_call, evL_sub, gets, At.get, Prim.run, binD, binI, unD, hU, hA, hB, hC, ek, e1, e2, eA, eB]
        | true =>
          cases eC : RC with
          | false => simp [T22, evL_prim, evL_ite, evL_jmp, evL_call, evL_sub, gets, At.get, Prim.run, binD, binI, unD, hU, hA, hB, hC, ek, e1, e2, eA, eB, eC]
          | true =>
            cases e3 : (op == 1) with
            | true => simp [T22, evL_prim, evL_ite, evL_jmp, evL_call, evL_sub, gets, At.get, Prim.run, binD, binI, unD, hU, hA, hB, hC, ek, e1, e2, eA, eB, eC, e3]
            | false =>
              cases eK : K with
              | false => simp [T22, evL_prim, evL_ite, evL_jmp, evL_call, evL_sub, gets, At.get, Prim.run, binD, binI, unD, hU, hA, hB, hC, ek, e1, e2, eA, eB, eC, e3, eK]
              | true =>
                cases e4 : decide (many > 0) with
                | false => simp [T22, evL_prim, evL_ite, evL_jmp, evL_call, evL_sub, gets, At.get, Prim.run, binD, binI, unD, hU, hA, hB, hC, ek, e1, e2, eA, eB, eC, e3, eK, e4]
                | true =>
                  simp [T22, evL_prim, evL_ite, evL_jmp, evL_call, evL_sub, gets, At.get, Prim.run, binD, binI, unD, hU, hA, hB, hC, ek, e1, e2, eA, eB, eC, e3, eK, e4, em (of_decide_eq_true e4)]

set_option maxHeartbeats 4000000 in
theorem refmay_is (op a b c k many : Int) (h1 : 0 ≤ k) (h2 : k ≤ 4294967295) : CA 23 [insD op a b c k, .int .i64 many] = some [.bool (mayB op a b c k many)] := by
  rw [call_of t23]
  have hA := reg_is a
  have hB := reg_is b
  have hC := reg_is c
  have hG := goal_is k many h1 h2
  unfold mayB insD
  rcases sixteen op with rfl | rfl | rfl | rfl | rfl | rfl | rfl | rfl | rfl | rfl | rfl | rfl | rfl | rfl | rfl | rfl | h | h
  · cases eA : regB a with
    | false => simp [T23, evL_prim, evL_ite, evL_jmp, evL_call, evL_sub, gets, At.get, Prim.run, binD, binI, unD, hA, hB, hC, hG, rgB, uA, uB, uC, uK, eA]
    | true =>
      cases eB : (b == 0) with
      | false => simp [T23, evL_prim, evL_ite, evL_jmp, evL_call, evL_sub, gets, At.get, Prim.run, binD, binI, unD, hA, hB, hC, hG, rgB, uA, uB, uC, uK, eA, eB]
      | true =>
        cases eC : (c == 0) with
        | false => simp [T23, evL_prim, evL_ite, evL_jmp, evL_call, evL_sub, gets, At.get, Prim.run, binD, binI, unD, hA, hB, hC, hG, rgB, uA, uB, uC, uK, eA, eB, eC]
        | true =>
          simp [T23, evL_prim, evL_ite, evL_jmp, evL_call, evL_sub, gets, At.get, Prim.run, binD, binI, unD, hA, hB, hC, hG, rgB, uA, uB, uC, uK, eA, eB, eC]
  · cases eA : regB a with
    | false => simp [T23, evL_prim, evL_ite, evL_jmp, evL_call, evL_sub, gets, At.get, Prim.run, binD, binI, unD, hA, hB, hC, hG, rgB, uA, uB, uC, uK, eA]
    | true =>
      cases eB : regB b with
      | false => simp [T23, evL_prim, evL_ite, evL_jmp, evL_call, evL_sub, gets, At.get, Prim.run, binD, binI, unD, hA, hB, hC, hG, rgB, uA, uB, uC, uK, eA, eB]
      | true =>
        cases eC : regB c with
        | false => simp [T23, evL_prim, evL_ite, evL_jmp, evL_call, evL_sub, gets, At.get, Prim.run, binD, binI, unD, hA, hB, hC, hG, rgB, uA, uB, uC, uK, eA, eB, eC]
        | true =>
          cases eK : (k == 0) with
          | false => simp [T23, evL_prim, evL_ite, evL_jmp, evL_call, evL_sub, gets, At.get, Prim.run, binD, binI, unD, hA, hB, hC, hG, rgB, uA, uB, uC, uK, eA, eB, eC, eK]
          | true =>
            simp [T23, evL_prim, evL_ite, evL_jmp, evL_call, evL_sub, gets, At.get, Prim.run, binD, binI, unD, hA, hB, hC, hG, rgB, uA, uB, uC, uK, eA, eB, eC, eK]
  · cases eA : regB a with
    | false => simp [T23, evL_prim, evL_ite, evL_jmp, evL_call, evL_sub, gets, At.get, Prim.run, binD, binI, unD, hA, hB, hC, hG, rgB, uA, uB, uC, uK, eA]
    | true =>
      cases eB : regB b with
      | false => simp [T23, evL_prim, evL_ite, evL_jmp, evL_call, evL_sub, gets, At.get, Prim.run, binD, binI, unD, hA, hB, hC, hG, rgB, uA, uB, uC, uK, eA, eB]
      | true =>
        cases eC : regB c with
        | false => simp [T23, evL_prim, evL_ite, evL_jmp, evL_call, evL_sub, gets, At.get, Prim.run, binD, binI, unD, hA, hB, hC, hG, rgB, uA, uB, uC, uK, eA, eB, eC]
        | true =>
          cases eK : (k == 0) with
          | false => simp [T23, evL_prim, evL_ite, evL_jmp, evL_call, evL_sub, gets, At.get, Prim.run, binD, binI, unD, hA, hB, hC, hG, rgB, uA, uB, uC, uK, eA, eB, eC, eK]
          | true =>
            simp [T23, evL_prim, evL_ite, evL_jmp, evL_call, evL_sub, gets, At.get, Prim.run, binD, binI, unD, hA, hB, hC, hG, rgB, uA, uB, uC, uK, eA, eB, eC, eK]
  · cases eA : regB a with
    | false => simp [T23, evL_prim, evL_ite, evL_jmp, evL_call, evL_sub, gets, At.get, Prim.run, binD, binI, unD, hA, hB, hC, hG, rgB, uA, uB, uC, uK, eA]
    | true =>
      cases eB : regB b with
      | false => simp [T23, evL_prim, evL_ite, evL_jmp, evL_call, evL_sub, gets, At.get, Prim.run, binD, binI, unD, hA, hB, hC, hG, rgB, uA, uB, uC, uK, eA, eB]
      | true =>
        cases eC : regB c with
        | false => simp [T23, evL_prim, evL_ite, evL_jmp, evL_call, evL_sub, gets, At.get, Prim.run, binD, binI, unD, hA, hB, hC, hG, rgB, uA, uB, uC, uK, eA, eB, eC]
        | true =>
          cases eK : (k == 0) with
          | false => simp [T23, evL_prim, evL_ite, evL_jmp, evL_call, evL_sub, gets, At.get, Prim.run, binD, binI, unD, hA, hB, hC, hG, rgB, uA, uB, uC, uK, eA, eB, eC, eK]
          | true =>
            simp [T23, evL_prim, evL_ite, evL_jmp, evL_call, evL_sub, gets, At.get, Prim.run, binD, binI, unD, hA, hB, hC, hG, rgB, uA, uB, uC, uK, eA, eB, eC, eK]
  · cases eA : regB a with
    | false => simp [T23, evL_prim, evL_ite, evL_jmp, evL_call, evL_sub, gets, At.get, Prim.run, binD, binI, unD, hA, hB, hC, hG, rgB, uA, uB, uC, uK, eA]
    | true =>
      cases eB : regB b with
      | false => simp [T23, evL_prim, evL_ite, evL_jmp, evL_call, evL_sub, gets, At.get, Prim.run, binD, binI, unD, hA, hB, hC, hG, rgB, uA, uB, uC, uK, eA, eB]
      | true =>
        cases eC : regB c with
        | false => simp [T23, evL_prim, evL_ite, evL_jmp, evL_call, evL_sub, gets, At.get, Prim.run, binD, binI, unD, hA, hB, hC, hG, rgB, uA, uB, uC, uK, eA, eB, eC]
        | true =>
          cases eK : (k == 0) with
          | false => simp [T23, evL_prim, evL_ite, evL_jmp, evL_call, evL_sub, gets, At.get, Prim.run, binD, binI, unD, hA, hB, hC, hG, rgB, uA, uB, uC, uK, eA, eB, eC, eK]
          | true =>
            simp [T23, evL_prim, evL_ite, evL_jmp, evL_call, evL_sub, gets, At.get, Prim.run, binD, binI, unD, hA, hB, hC, hG, rgB, uA, uB, uC, uK, eA, eB, eC, eK]
  · cases eA : regB a with
    | false => simp [T23, evL_prim, evL_ite, evL_jmp, evL_call, evL_sub, gets, At.get, Prim.run, binD, binI, unD, hA, hB, hC, hG, rgB, uA, uB, uC, uK, eA]
    | true =>
      cases eB : regB b with
      | false => simp [T23, evL_prim, evL_ite, evL_jmp, evL_call, evL_sub, gets, At.get, Prim.run, binD, binI, unD, hA, hB, hC, hG, rgB, uA, uB, uC, uK, eA, eB]
      | true =>
        cases eC : regB c with
        | false => simp [T23, evL_prim, evL_ite, evL_jmp, evL_call, evL_sub, gets, At.get, Prim.run, binD, binI, unD, hA, hB, hC, hG, rgB, uA, uB, uC, uK, eA, eB, eC]
        | true =>
          cases eK : (k == 0) with
          | false => simp [T23, evL_prim, evL_ite, evL_jmp, evL_call, evL_sub, gets, At.get, Prim.run, binD, binI, unD, hA, hB, hC, hG, rgB, uA, uB, uC, uK, eA, eB, eC, eK]
          | true =>
            simp [T23, evL_prim, evL_ite, evL_jmp, evL_call, evL_sub, gets, At.get, Prim.run, binD, binI, unD, hA, hB, hC, hG, rgB, uA, uB, uC, uK, eA, eB, eC, eK]
  · cases eA : regB a with
    | false => simp [T23, evL_prim, evL_ite, evL_jmp, evL_call, evL_sub, gets, At.get, Prim.run, binD, binI, unD, hA, hB, hC, hG, rgB, uA, uB, uC, uK, eA]
    | true =>
      cases eB : regB b with
      | false => simp [T23, evL_prim, evL_ite, evL_jmp, evL_call, evL_sub, gets, At.get, Prim.run, binD, binI, unD, hA, hB, hC, hG, rgB, uA, uB, uC, uK, eA, eB]
      | true =>
        cases eC : regB c with
        | false => simp [T23, evL_prim, evL_ite, evL_jmp, evL_call, evL_sub, gets, At.get, Prim.run, binD, binI, unD, hA, hB, hC, hG, rgB, uA, uB, uC, uK, eA, eB, eC]
        | true =>
          cases eK : (k == 0) with
          | false => simp [T23, evL_prim, evL_ite, evL_jmp, evL_call, evL_sub, gets, At.get, Prim.run, binD, binI, unD, hA, hB, hC, hG, rgB, uA, uB, uC, uK, eA, eB, eC, eK]
          | true =>
            simp [T23, evL_prim, evL_ite, evL_jmp, evL_call, evL_sub, gets, At.get, Prim.run, binD, binI, unD, hA, hB, hC, hG, rgB, uA, uB, uC, uK, eA, eB, eC, eK]
  · cases eA : regB a with
    | false => simp [T23, evL_prim, evL_ite, evL_jmp, evL_call, evL_sub, gets, At.get, Prim.run, binD, binI, unD, hA, hB, hC, hG, rgB, uA, uB, uC, uK, eA]
    | true =>
      cases eB : regB b with
      | false => simp [T23, evL_prim, evL_ite, evL_jmp, evL_call, evL_sub, gets, At.get, Prim.run, binD, binI, unD, hA, hB, hC, hG, rgB, uA, uB, uC, uK, eA, eB]
      | true =>
        cases eC : regB c with
        | false => simp [T23, evL_prim, evL_ite, evL_jmp, evL_call, evL_sub, gets, At.get, Prim.run, binD, binI, unD, hA, hB, hC, hG, rgB, uA, uB, uC, uK, eA, eB, eC]
        | true =>
          cases eK : (k == 0) with
          | false => simp [T23, evL_prim, evL_ite, evL_jmp, evL_call, evL_sub, gets, At.get, Prim.run, binD, binI, unD, hA, hB, hC, hG, rgB, uA, uB, uC, uK, eA, eB, eC, eK]
          | true =>
            simp [T23, evL_prim, evL_ite, evL_jmp, evL_call, evL_sub, gets, At.get, Prim.run, binD, binI, unD, hA, hB, hC, hG, rgB, uA, uB, uC, uK, eA, eB, eC, eK]
  · cases eA : regB a with
    | false => simp [T23, evL_prim, evL_ite, evL_jmp, evL_call, evL_sub, gets, At.get, Prim.run, binD, binI, unD, hA, hB, hC, hG, rgB, uA, uB, uC, uK, eA]
    | true =>
      cases eB : regB b with
      | false => simp [T23, evL_prim, evL_ite, evL_jmp, evL_call, evL_sub, gets, At.get, Prim.run, binD, binI, unD, hA, hB, hC, hG, rgB, uA, uB, uC, uK, eA, eB]
      | true =>
        cases eC : (c == 0) with
        | false => simp [T23, evL_prim, evL_ite, evL_jmp, evL_call, evL_sub, gets, At.get, Prim.run, binD, binI, unD, hA, hB, hC, hG, rgB, uA, uB, uC, uK, eA, eB, eC]
        | true =>
          cases eK : (k == 0) with
          | false => simp [T23, evL_prim, evL_ite, evL_jmp, evL_call, evL_sub, gets, At.get, Prim.run, binD, binI, unD, hA, hB, hC, hG, rgB, uA, uB, uC, uK, eA, eB, eC, eK]
          | true =>
            simp [T23, evL_prim, evL_ite, evL_jmp, evL_call, evL_sub, gets, At.get, Prim.run, binD, binI, unD, hA, hB, hC, hG, rgB, uA, uB, uC, uK, eA, eB, eC, eK]
  · cases eA : regB a with
    | false => simp [T23, evL_prim, evL_ite, evL_jmp, evL_call, evL_sub, gets, At.get, Prim.run, binD, binI, unD, hA, hB, hC, hG, rgB, uA, uB, uC, uK, eA]
    | true =>
      cases eB : regB b with
      | false => simp [T23, evL_prim, evL_ite, evL_jmp, evL_call, evL_sub, gets, At.get, Prim.run, binD, binI, unD, hA, hB, hC, hG, rgB, uA, uB, uC, uK, eA, eB]
      | true =>
        cases eC : (c == 0) with
        | false => simp [T23, evL_prim, evL_ite, evL_jmp, evL_call, evL_sub, gets, At.get, Prim.run, binD, binI, unD, hA, hB, hC, hG, rgB, uA, uB, uC, uK, eA, eB, eC]
        | true =>
          cases eK : (k == 0) with
          | false => simp [T23, evL_prim, evL_ite, evL_jmp, evL_call, evL_sub, gets, At.get, Prim.run, binD, binI, unD, hA, hB, hC, hG, rgB, uA, uB, uC, uK, eA, eB, eC, eK]
          | true =>
            simp [T23, evL_prim, evL_ite, evL_jmp, evL_call, evL_sub, gets, At.get, Prim.run, binD, binI, unD, hA, hB, hC, hG, rgB, uA, uB, uC, uK, eA, eB, eC, eK]
  · cases eA : regB a with
    | false => simp [T23, evL_prim, evL_ite, evL_jmp, evL_call, evL_sub, gets, At.get, Prim.run, binD, binI, unD, hA, hB, hC, hG, rgB, uA, uB, uC, uK, eA]
    | true =>
      cases eB : regB b with
      | false => simp [T23, evL_prim, evL_ite, evL_jmp, evL_call, evL_sub, gets, At.get, Prim.run, binD, binI, unD, hA, hB, hC, hG, rgB, uA, uB, uC, uK, eA, eB]
      | true =>
        cases eC : regB c with
        | false => simp [T23, evL_prim, evL_ite, evL_jmp, evL_call, evL_sub, gets, At.get, Prim.run, binD, binI, unD, hA, hB, hC, hG, rgB, uA, uB, uC, uK, eA, eB, eC]
        | true =>
          cases eK : (k == 0) with
          | false => simp [T23, evL_prim, evL_ite, evL_jmp, evL_call, evL_sub, gets, At.get, Prim.run, binD, binI, unD, hA, hB, hC, hG, rgB, uA, uB, uC, uK, eA, eB, eC, eK]
          | true =>
            simp [T23, evL_prim, evL_ite, evL_jmp, evL_call, evL_sub, gets, At.get, Prim.run, binD, binI, unD, hA, hB, hC, hG, rgB, uA, uB, uC, uK, eA, eB, eC, eK]
  · cases eA : (a == 0) with
    | false => simp [T23, evL_prim, evL_ite, evL_jmp, evL_call, evL_sub, gets, At.get, Prim.run, binD, binI, unD, hA, hB, hC, hG, rgB, uA, uB, uC, uK, eA]
    | true =>
      cases eB : (b == 0) with
      | false => simp [T23, evL_prim, evL_ite, evL_jmp, evL_call, evL_sub, gets, At.get, Prim.run, binD, binI, unD, hA, hB, hC, hG, rgB, uA, uB, uC, uK, eA, eB]
      | true =>
        cases eC : (c == 0) with
        | false => simp [T23, evL_prim, evL_ite, evL_jmp, evL_call, evL_sub, gets, At.get, Prim.run, binD, binI, unD, hA, hB, hC, hG, rgB, uA, uB, uC, uK, eA, eB, eC]
        | true =>
          cases eK : (k == 0) with
          | false => simp [T23, evL_prim, evL_ite, evL_jmp, evL_call, evL_sub, gets, At.get, Prim.run, binD, binI, unD, hA, hB, hC, hG, rgB, uA, uB, uC, uK, eA, eB, eC, eK]
          | true =>
            simp [T23, evL_prim, evL_ite, evL_jmp, evL_call, evL_sub, gets, At.get, Prim.run, binD, binI, unD, hA, hB, hC, hG, rgB, uA, uB, uC, uK, eA, eB, eC, eK]
  · cases eA : (a == 0) with
    | false => simp [T23, evL_prim, evL_ite, evL_jmp, evL_call, evL_sub, gets, At.get, Prim.run, binD, binI, unD, hA, hB, hC, hG, rgB, uA, uB, uC, uK, eA]
    | true =>
      cases eB : (b == 0) with
      | false => simp [T23, evL_prim, evL_ite, evL_jmp, evL_call, evL_sub, gets, At.get, Prim.run, binD, binI, unD, hA, hB, hC, hG, rgB, uA, uB, uC, uK, eA, eB]
      | true =>
        cases eC : (c == 0) with
        | false => simp [T23, evL_prim, evL_ite, evL_jmp, evL_call, evL_sub, gets, At.get, Prim.run, binD, binI, unD, hA, hB, hC, hG, rgB, uA, uB, uC, uK, eA, eB, eC]
        | true =>
          cases eG : goalB k many with
          | false => simp [T23, evL_prim, evL_ite, evL_jmp, evL_call, evL_sub, gets, At.get, Prim.run, binD, binI, unD, hA, hB, hC, hG, rgB, uA, uB, uC, uK, eA, eB, eC, eG]
          | true =>
            simp [T23, evL_prim, evL_ite, evL_jmp, evL_call, evL_sub, gets, At.get, Prim.run, binD, binI, unD, hA, hB, hC, hG, rgB, uA, uB, uC, uK, eA, eB, eC, eG]
  · cases eA : regB a with
    | false => simp [T23, evL_prim, evL_ite, evL_jmp, evL_call, evL_sub, gets, At.get, Prim.run, binD, binI, unD, hA, hB, hC, hG, rgB, uA, uB, uC, uK, eA]
    | true =>
      cases eB : (b == 0) with
      | false => simp [T23, evL_prim, evL_ite, evL_jmp, evL_call, evL_sub, gets, At.get, Prim.run, binD, binI, unD, hA, hB, hC, hG, rgB, uA, uB, uC, uK, eA, eB]
      | true =>
        cases eC : (c == 0) with
        | false => simp [T23, evL_prim, evL_ite, evL_jmp, evL_call, evL_sub, gets, At.get, Prim.run, binD, binI, unD, hA, hB, hC, hG, rgB, uA, uB, uC, uK, eA, eB, eC]
        | true =>
          cases eG : goalB k many with
          | false => simp [T23, evL_prim, evL_ite, evL_jmp, evL_call, evL_sub, gets, At.get, Prim.run, binD, binI, unD, hA, hB, hC, hG, rgB, uA, uB, uC, uK, eA, eB, eC, eG]
          | true =>
            simp [T23, evL_prim, evL_ite, evL_jmp, evL_call, evL_sub, gets, At.get, Prim.run, binD, binI, unD, hA, hB, hC, hG, rgB, uA, uB, uC, uK, eA, eB, eC, eG]
  · cases eA : regB a with
    | false => simp [T23, evL_prim, evL_ite, evL_jmp, evL_call, evL_sub, gets, At.get, Prim.run, binD, binI, unD, hA, hB, hC, hG, rgB, uA, uB, uC, uK, eA]
    | true =>
      cases eB : (b == 0) with
      | false => simp [T23, evL_prim, evL_ite, evL_jmp, evL_call, evL_sub, gets, At.get, Prim.run, binD, binI, unD, hA, hB, hC, hG, rgB, uA, uB, uC, uK, eA, eB]
      | true =>
        cases eC : (c == 0) with
        | false => simp [T23, evL_prim, evL_ite, evL_jmp, evL_call, evL_sub, gets, At.get, Prim.run, binD, binI, unD, hA, hB, hC, hG, rgB, uA, uB, uC, uK, eA, eB, eC]
        | true =>
          cases eK : (k == 0) with
          | false => simp [T23, evL_prim, evL_ite, evL_jmp, evL_call, evL_sub, gets, At.get, Prim.run, binD, binI, unD, hA, hB, hC, hG, rgB, uA, uB, uC, uK, eA, eB, eC, eK]
          | true =>
            simp [T23, evL_prim, evL_ite, evL_jmp, evL_call, evL_sub, gets, At.get, Prim.run, binD, binI, unD, hA, hB, hC, hG, rgB, uA, uB, uC, uK, eA, eB, eC, eK]
  · cases eA : (a == 0) with
    | false => simp [T23, evL_prim, evL_ite, evL_jmp, evL_call, evL_sub, gets, At.get, Prim.run, binD, binI, unD, hA, hB, hC, hG, rgB, uA, uB, uC, uK, eA]
    | true =>
      cases eB : (b == 0) with
      | false => simp [T23, evL_prim, evL_ite, evL_jmp, evL_call, evL_sub, gets, At.get, Prim.run, binD, binI, unD, hA, hB, hC, hG, rgB, uA, uB, uC, uK, eA, eB]
      | true =>
        cases eC : (c == 0) with
        | false => simp [T23, evL_prim, evL_ite, evL_jmp, evL_call, evL_sub, gets, At.get, Prim.run, binD, binI, unD, hA, hB, hC, hG, rgB, uA, uB, uC, uK, eA, eB, eC]
        | true =>
          cases eK : (k == 0) with
          | false => simp [T23, evL_prim, evL_ite, evL_jmp, evL_call, evL_sub, gets, At.get, Prim.run, binD, binI, unD, hA, hB, hC, hG, rgB, uA, uB, uC, uK, eA, eB, eC, eK]
          | true =>
            simp [T23, evL_prim, evL_ite, evL_jmp, evL_call, evL_sub, gets, At.get, Prim.run, binD, binI, unD, hA, hB, hC, hG, rgB, uA, uB, uC, uK, eA, eB, eC, eK]
  · have e := other op (.inl h)
    have u1 : (!decide (op < 1) && !decide (op > 16)) = false := by simp; omega
    simp [T23, evL_prim, evL_ite, evL_jmp, evL_sub, gets, At.get, Prim.run, binD, binI, e, u1]
  · have e := other op (.inr h)
    have u1 : (!decide (op < 1) && !decide (op > 16)) = false := by simp; omega
    simp [T23, evL_prim, evL_ite, evL_jmp, evL_sub, gets, At.get, Prim.run, binD, binI, e, u1]
end Go.Proofs.Ytkgflipalefmfaa
