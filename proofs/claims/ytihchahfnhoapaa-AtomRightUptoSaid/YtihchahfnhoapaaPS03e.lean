/- Layer 3: the law CoreRight on typed data. -/
import Derived.Test.YtihchahfnhoapaaPS03d
set_option linter.unusedSimpArgs false
set_option linter.unusedVariables false
namespace Go.Proofs.Ytihchahfnhoapaa
open Go.SX

theorem r02_May_eq (x : Ins) (n : Int) (hK : 0 ≤ Ins.K x ∧ Ins.K x < 4294967296) (hn : 0 ≤ n ∧ n ≤ 1000) : r02_May x n = isa_May x n := by
  have e3 : wu64 (Ins.K x) = Ins.K x := wu64_id (by omega) (by omega)
  have e4 : wu64 n = n := wu64_id (by omega) (by omega)
  have e5 : w64 (Ins.K x) = Ins.K x := w64_id (by omega) (by omega)
  by_cases hop : 1 ≤ Ins.Op x ∧ Ins.Op x ≤ 16
  · have u1 : isa_Uses 1 = (true, false, false, true) := rfl
    have u2 : isa_Uses 2 = (true, true, true, false) := rfl
    have u3 : isa_Uses 3 = (true, true, true, false) := rfl
    have u4 : isa_Uses 4 = (true, true, true, false) := rfl
    have u5 : isa_Uses 5 = (true, true, true, false) := rfl
    have u6 : isa_Uses 6 = (true, true, true, false) := rfl
    have u7 : isa_Uses 7 = (true, true, true, false) := rfl
    have u8 : isa_Uses 8 = (true, true, true, false) := rfl
    have u9 : isa_Uses 9 = (true, true, false, false) := rfl
    have u10 : isa_Uses 10 = (true, true, false, false) := rfl
    have u11 : isa_Uses 11 = (true, true, true, false) := rfl
    have u12 : isa_Uses 12 = (false, false, false, false) := rfl
    have u13 : isa_Uses 13 = (false, false, false, true) := rfl
    have u14 : isa_Uses 14 = (true, false, false, true) := rfl
    have u15 : isa_Uses 15 = (true, false, false, false) := rfl
    have u16 : isa_Uses 16 = (false, false, false, false) := rfl
    have rt : ∀ a, isa_register a true = r02_reg a := fun a => rfl
    have rf : ∀ a, isa_register a false = decide (a = 0) := fun a => rfl
    have : Ins.Op x = 1 ∨ Ins.Op x = 2 ∨ Ins.Op x = 3 ∨ Ins.Op x = 4 ∨ Ins.Op x = 5 ∨ Ins.Op x = 6 ∨ Ins.Op x = 7 ∨ Ins.Op x = 8 ∨ Ins.Op x = 9 ∨ Ins.Op x = 10 ∨ Ins.Op x = 11 ∨ Ins.Op x = 12 ∨ Ins.Op x = 13 ∨ Ins.Op x = 14 ∨ Ins.Op x = 15 ∨ Ins.Op x = 16 := by omega
    rcases this with e | e | e | e | e | e | e | e | e | e | e | e | e | e | e | e <;>
      · simp only [r02_May, isa_May, e, u1, u2, u3, u4, u5, u6, u7, u8, u9, u10, u11, u12, u13, u14, u15, u16, rt, rf, r02_goal, e3, e4, e5]
        cases r02_reg (Ins.A x) <;> cases r02_reg (Ins.B x) <;> cases r02_reg (Ins.C x) <;> by_cases hA : Ins.A x = 0 <;> by_cases hB : Ins.B x = 0 <;> by_cases hC : Ins.C x = 0 <;> simp [hA, hB, hC]
  · have hd : ∀ k : Int, 1 ≤ k → k ≤ 16 → decide (Ins.Op x = k) = false := fun k h1 h2 => decide_eq_false (by omega)
    have hf : isa_May x n = false := by
      rcases Bool.eq_false_or_eq_true (isa_May x n) with h | h
      · exact absurd (may_facts h).1 hop
      · exact h
    rw [hf]
    simp [r02_May, hd]

theorem r02_Right_eq (p : List Ins) (hp : p.length ≤ 1000) (hK : ∀ x ∈ p, 0 ≤ Ins.K x ∧ Ins.K x < 4294967296) : r02_Right p = some (rightP p) := by
  unfold r02_Right rightP
  by_cases h : 1 ≤ p.length ∧ p.length ≤ 64
  · have hc : (decide ((List.length p : Int) = (0 : Int)) || decide ((64 : Int) < (List.length p : Int))) = false := by
      rw [Bool.or_eq_false_iff, decide_eq_false_iff_not, decide_eq_false_iff_not]; omega
    have hw : w64 ((p.length : Int) - 1) = ((p.length - 1 : Nat) : Int) := by rw [w64_id (by omega) (by omega)]; omega
    obtain ⟨x, hx⟩ : ∃ x, p[p.length - 1]? = some x := ⟨_, List.getElem?_eq_getElem (by omega)⟩
    have hm : ∀ i : Nat, (hi : i < p.length) → r02_May p[i] (p.length : Int) = isa_May p[i] (p.length : Int) := fun i hi => r02_May_eq _ _ (hK _ (List.getElem_mem hi)) (by omega)
    have step : ∀ i : Nat, (hi : i < p.length) → isa_May p[i] (p.length : Int) = true → r02_Right_L1 p (i : Int) = some (.inl ((i : Int) + 1)) := fun i hi h1 => by
      have hlt : (i : Int) < (p.length : Int) := by omega
      have hw : w64 ((i : Int) + 1) = (i : Int) + 1 := w64_id (by omega) (by omega)
      unfold r02_Right_L1
      simp only [hlt, decide_true, if_true, getO_nat, List.getElem?_eq_getElem hi, Option.bind_some, hm i hi, h1, Bool.not_true, Bool.false_eq_true, if_false, hw]
    simp only [hc, Bool.false_eq_true, if_false, hw, getO_nat, hx, Option.bind_some, decide_eq_true h, Bool.true_and]
    rcases first_of (fun i => match p[i]? with | some y => isa_May y (p.length : Int) | none => true) p.length with hq | ⟨k, hk, hq, hb⟩
    · have h1 := loop_all_t (f := r02_Right_L1 p) (n := p.length) (fun i hi => step i hi (by
        have := hq i hi
        simpa only [List.getElem?_eq_getElem hi] using this)) (by
        unfold r02_Right_L1
        simp)
      have h2 : p.all (fun x => isa_May x (p.length : Int)) = true := by
        rw [List.all_eq_true]
        intro y hy
        obtain ⟨i, hi, rfl⟩ := List.getElem_of_mem hy
        have := hq i hi
        simpa only [List.getElem?_eq_getElem hi] using this
      by_cases o1 : Ins.Op x = 16 <;> simp [h1, h2, endsB, o1]
    · have h1 := loop_all_f (f := r02_Right_L1 p) (k := k) (r := false) (fun i hi => step i (by omega) (by
        have := hb i hi
        simpa only [List.getElem?_eq_getElem (show i < p.length by omega)] using this)) (by
        have hlt : (k : Int) < (p.length : Int) := by omega
        simp only [List.getElem?_eq_getElem hk] at hq
        unfold r02_Right_L1
        simp only [hlt, decide_true, if_true, getO_nat, List.getElem?_eq_getElem hk, Option.bind_some, hm k hk, hq, Bool.not_false])
      have h2 : p.all (fun x => isa_May x (p.length : Int)) = false := by
        rw [List.all_eq_false]
        simp only [List.getElem?_eq_getElem hk] at hq
        exact ⟨p[k], List.getElem_mem hk, by rw [hq]; simp⟩
      simp [h1, h2]
  · have hc : (decide ((List.length p : Int) = (0 : Int)) || decide ((64 : Int) < (List.length p : Int))) = true := by
      rw [Bool.or_eq_true, decide_eq_true_eq, decide_eq_true_eq]; omega
    simp only [hc, if_true, decide_eq_false h, Bool.false_and]

theorem r03_Right_eq (p : List Ins) (c : Core) (hp : p.length ≤ 1000) (hK : ∀ x ∈ p, 0 ≤ Ins.K x ∧ Ins.K x < 4294967296) : r03_Right p c = some (rightC p c) := by
  unfold r03_Right rightC
  rw [r02_Right_eq p hp hK]
  cases rightP p <;> by_cases h : 0 ≤ Core.PC c <;> simp [h]

end Go.Proofs.Ytihchahfnhoapaa
