/- Layer 5: frames read, by the program and by the document. -/
import Derived.Test.YtihchahfnhoapaaPO05d
set_option linter.unusedSimpArgs false
set_option linter.unusedVariables false
namespace Go.Proofs.Ytihchahfnhoapaa
open Go.SX

theorem r05_Read_eq (l : List Nat) (hl : l.length ≤ 1000) (hb : ∀ x ∈ l, x < 256) : r05_Read (castL l) = some (readS l) := by
  unfold r05_Read readS
  by_cases h1 : l.length < 19
  · have : (List.length (castL l) : Int) < 19 := by rw [castL_len]; omega
    rw [decide_eq_true this, if_pos rfl, if_pos h1]
    rfl
  · have h1' : ¬ (List.length (castL l) : Int) < 19 := by rw [castL_len]; omega
    rw [decide_eq_false h1', if_neg (by simp), if_neg h1]
    by_cases h2 : 19 < l.length
    · have : (19 : Int) < (List.length (castL l) : Int) := by rw [castL_len]; omega
      rw [decide_eq_true this, if_pos rfl, if_pos h2]
      rfl
    · have h2' : ¬ (19 : Int) < (List.length (castL l) : Int) := by rw [castL_len]; omega
      rw [decide_eq_false h2', if_neg (by simp), if_neg h2]
      have h19 : l.length = 19 := by omega
      have hby : Byte19 l := ⟨h19, hb⟩
      have g := getD_lt hby
      have hsum := r05_Sum_eq (l.take 15) (by simp; omega) (fun x hx => hb x (List.mem_of_mem_take hx))
      obtain ⟨b0, b1, b2, b3, b4, b5, b6, b7, b8, b9, b10, b11, b12, b13, b14, b15, b16, b17, b18, rfl⟩ := list19 l h19
      have g0 : b0 < 256 := g 0
      have g1 : b1 < 256 := g 1
      have g2 : b2 < 256 := g 2
      have g3 : b3 < 256 := g 3
      have g4 : b4 < 256 := g 4
      have g5 : b5 < 256 := g 5
      have g6 : b6 < 256 := g 6
      have g15 : b15 < 256 := g 15
      have g16 : b16 < 256 := g 16
      have g17 : b17 < 256 := g 17
      have g18 : b18 < 256 := g 18
      have w2 := r01_Of_eq b7 b8 b9 b10 (g 7) (g 8) (g 9) (g 10)
      have w3 := r01_Of_eq b11 b12 b13 b14 (g 11) (g 12) (g 13) (g 14)
      obtain ⟨C, hC⟩ : ∃ C : List Int, C = castL [b0, b1, b2, b3, b4, b5, b6, b7, b8, b9, b10, b11, b12, b13, b14, b15, b16, b17, b18] := ⟨_, rfl⟩
      have hCl : (List.length C : Int) = 19 := by rw [hC]; rfl
      have s1 : subO C (15 : Int) (19 : Int) = some (castL [b15, b16, b17, b18]) := by rw [hC]; rfl
      have s2 : subO C (0 : Int) (15 : Int) = some (castL [b0, b1, b2, b3, b4, b5, b6, b7, b8, b9, b10, b11, b12, b13, b14]) := by rw [hC]; rfl
      have s3 : subO C (7 : Int) (11 : Int) = some [(b7 : Int), b8, b9, b10] := by rw [hC]; rfl
      have s4 : subO C (11 : Int) (15 : Int) = some [(b11 : Int), b12, b13, b14] := by rw [hC]; rfl
      have e0 : getO C (0 : Int) = some (b0 : Int) := by rw [hC]; rfl
      have e1 : getO C (1 : Int) = some (b1 : Int) := by rw [hC]; rfl
      have e2 : getO C (2 : Int) = some (b2 : Int) := by rw [hC]; rfl
      have e3 : getO C (3 : Int) = some (b3 : Int) := by rw [hC]; rfl
      have e4 : getO C (4 : Int) = some (b4 : Int) := by rw [hC]; rfl
      have e5 : getO C (5 : Int) = some (b5 : Int) := by rw [hC]; rfl
      have e6 : getO C (6 : Int) = some (b6 : Int) := by rw [hC]; rfl
      have hsum' : r05_Sum (castL [b0, b1, b2, b3, b4, b5, b6, b7, b8, b9, b10, b11, b12, b13, b14]) = some (crcN [b0, b1, b2, b3, b4, b5, b6, b7, b8, b9, b10, b11, b12, b13, b14] : Int) := hsum
      have hwh : wholeN [b0, b1, b2, b3, b4, b5, b6, b7, b8, b9, b10, b11, b12, b13, b14, b15, b16, b17, b18] ↔ ofN b15 b16 b17 b18 = crcN [b0, b1, b2, b3, b4, b5, b6, b7, b8, b9, b10, b11, b12, b13, b14] := Iff.rfl
      have hby2 := r01_Bytes_eq (crcN [b0, b1, b2, b3, b4, b5, b6, b7, b8, b9, b10, b11, b12, b13, b14]) crcN_lt
      have hb1 : b2sO (castL (bytesN (crcN [b0, b1, b2, b3, b4, b5, b6, b7, b8, b9, b10, b11, b12, b13, b14]))) = some (castL (bytesN (crcN [b0, b1, b2, b3, b4, b5, b6, b7, b8, b9, b10, b11, b12, b13, b14]))) := b2sO_cast (bytesN_lt crcN_lt)
      have hb2 : b2sO (castL [b15, b16, b17, b18]) = some (castL [b15, b16, b17, b18]) := b2sO_cast (by
        intro x hx
        simp only [List.mem_cons, List.not_mem_nil, or_false] at hx
        omega)
      have heq : castL (bytesN (crcN [b0, b1, b2, b3, b4, b5, b6, b7, b8, b9, b10, b11, b12, b13, b14])) = castL [b15, b16, b17, b18] ↔ wholeN [b0, b1, b2, b3, b4, b5, b6, b7, b8, b9, b10, b11, b12, b13, b14, b15, b16, b17, b18] := by
        rw [castL_inj, hwh]
        constructor
        · intro h
          have h2 := ofN_bytes (n := crcN [b0, b1, b2, b3, b4, b5, b6, b7, b8, b9, b10, b11, b12, b13, b14]) crcN_lt
          unfold bytesN at h
          simp only [List.cons.injEq, and_true] at h
          obtain ⟨q1, q2, q3, q4⟩ := h
          rw [q1, q2, q3, q4] at h2
          exact h2
        · intro h
          rw [← h]
          exact bytesN_of g15 g16 g17 g18
      rw [← hC]
      simp only [hCl, s1, s2, hsum', hby2, hb1, hb2, Option.bind_some]
      by_cases hw : wholeN [b0, b1, b2, b3, b4, b5, b6, b7, b8, b9, b10, b11, b12, b13, b14, b15, b16, b17, b18]
      · rw [if_pos hw, decide_eq_true (heq.2 hw)]
        simp only [Bool.not_true, Bool.false_eq_true, if_false, e0, e1, e2, e3, e4, e5, e6, s3, s4, w2, w3, Option.bind_some]
        have hmsg : Msg.mk (w64 (b0 : Int)) (w64 (b1 : Int)) (w64 (b2 : Int)) (w64 (b3 : Int)) (w64 (b4 : Int)) (w64 (b5 : Int)) (decide ((b6 : Int) = (1 : Int))) (ofN b7 b8 b9 b10 : Int) (ofN b11 b12 b13 b14 : Int) = (numsOf [b0, b1, b2, b3, b4, b5, b6, b7, b8, b9, b10, b11, b12, b13, b14, b15, b16, b17, b18]).msg := by
          rw [w64_nat (by omega), w64_nat (by omega), w64_nat (by omega), w64_nat (by omega), w64_nat (by omega), w64_nat (by omega)]
          have hd : decide ((b6 : Int) = (1 : Int)) = decide (b6 = 1) := by
            by_cases q : b6 = 1
            · rw [decide_eq_true q, decide_eq_true (show (b6 : Int) = 1 by omega)]
            · rw [decide_eq_false q, decide_eq_false (show ¬ (b6 : Int) = 1 by omega)]
          rw [hd]
          rfl
        rw [hmsg]
        have hki : kindOk [b0, b1, b2, b3, b4, b5, b6, b7, b8, b9, b10, b11, b12, b13, b14, b15, b16, b17, b18] ↔ 1 ≤ b0 ∧ b0 ≤ 11 ∧ b6 ≤ 1 := Iff.rfl
        by_cases q1 : (b0 : Int) = 0
        · have hk : ¬ kindOk [b0, b1, b2, b3, b4, b5, b6, b7, b8, b9, b10, b11, b12, b13, b14, b15, b16, b17, b18] := by rw [hki]; omega
          rw [if_neg hk, decide_eq_true q1]
          rfl
        · by_cases q2 : 11 < (b0 : Int)
          · have hk : ¬ kindOk [b0, b1, b2, b3, b4, b5, b6, b7, b8, b9, b10, b11, b12, b13, b14, b15, b16, b17, b18] := by rw [hki]; omega
            rw [if_neg hk, decide_eq_false q1, decide_eq_true q2]
            rfl
          · by_cases q3 : 1 < (b6 : Int)
            · have hk : ¬ kindOk [b0, b1, b2, b3, b4, b5, b6, b7, b8, b9, b10, b11, b12, b13, b14, b15, b16, b17, b18] := by rw [hki]; omega
              rw [if_neg hk, decide_eq_false q1, decide_eq_false q2, decide_eq_true q3]
              rfl
            · have hk : kindOk [b0, b1, b2, b3, b4, b5, b6, b7, b8, b9, b10, b11, b12, b13, b14, b15, b16, b17, b18] := by rw [hki]; omega
              rw [if_pos hk, decide_eq_false q1, decide_eq_false q2, decide_eq_false q3]
              rfl
      · rw [if_neg hw, decide_eq_false fun h => hw (heq.1 h)]
        rfl

end Go.Proofs.Ytihchahfnhoapaa
