/- Layer 3: the law CoreRight on typed data. -/
import Derived.Test.YtihchahfnhoapaaPS03e
set_option linter.unusedSimpArgs false
set_option linter.unusedVariables false
namespace Go.Proofs.Ytihchahfnhoapaa
open Go.SX

theorem r03_Place_eq {n words : Int} (hn : 0 ≤ n ∧ n < 4294967296) : r03_Place n words = some (placeN n words) := by
  unfold r03_Place placeN
  by_cases h : words < 1
  · simp [h]
  · have e1 : w64 n = n := w64_id (by omega) (by omega)
    obtain ⟨r1, r2, r3⟩ := rem_lt (a := n) (n := words) hn.1 (by omega)
    simp [h, e1, r1]

theorem r03_Wants_eq {p : List Ins} (hK : ∀ x ∈ p, 0 ≤ Ins.K x ∧ Ins.K x < 4294967296) {c : Core} (hr : rightC p c = true) (hh : Core.Halted c = false) (hc : RegsOk c) {k : Nat} (hk : Core.PC c = (k : Int)) {x : Ins} (hx : p[k]? = some x) (words : Int) :
    r03_Wants p c words = some (wantS x c words) := by
  obtain ⟨k', x', f1, f2, f3, f4, f5⟩ := rightC_facts hr
  have : k' = k := by omega
  subst this
  rw [hx] at f4
  cases f4
  obtain ⟨m1, m2, m3, m4⟩ := may_facts f5
  obtain ⟨a1, a2, a3⟩ := reg_get hc.1 m2
  obtain ⟨b1, b2, b3⟩ := reg_get hc.1 m3
  obtain ⟨c1, c2, c3⟩ := reg_get hc.1 m4
  have hg : getO p (Core.PC c) = some x := by rw [hk, getO_nat, hx]
  have hp := r03_Place_eq (words := words) (regN_in hc m3)
  have w1 : w64 1 = 1 := by decide
  have w2 : w64 2 = 2 := by decide
  have w3 : w64 3 = 3 := by decide
  unfold r03_Wants wantS
  rw [r03_Right_eq p c (by omega) hK, hr]
  simp only [hh, Option.bind_some, Bool.not_true, Bool.false_eq_true, if_false, hg, a1, a2, b1, b2, c1, c2, hp]
  by_cases o1 : Ins.Op x = 16
  · simp [o1]
  · by_cases o2 : Ins.Op x = 9
    · simp [o2, w1]
    · by_cases o3 : Ins.Op x = 10
      · simp [o3, w2]
      · by_cases o4 : Ins.Op x = 11
        · simp [o4, w3]
        · by_cases o5 : Ins.Op x = 15 <;> simp [o1, o2, o3, o4, o5]

theorem r03_Done_eq {p : List Ins} (hKs : ∀ x ∈ p, 0 ≤ Ins.K x ∧ Ins.K x < 4294967296) {c : Core} (hr : rightC p c = true) (hh : Core.Halted c = false) (hc : RegsOk c) {k : Nat} (hk : Core.PC c = (k : Int)) {x : Ins} (hx : p[k]? = some x) (was : Int) :
    r03_Done p c was = some (doneS x c was) := by
  obtain ⟨k', x', f1, f2, f3, f4, f5⟩ := rightC_facts hr
  have : k' = k := by omega
  subst this
  rw [hx] at f4
  cases f4
  have hK := hKs x (List.mem_of_getElem? hx)
  obtain ⟨m1, m2, m3, m4⟩ := may_facts f5
  obtain ⟨a1, a2, a3⟩ := reg_get hc.1 m2
  obtain ⟨b1, b2, b3⟩ := reg_get hc.1 m3
  obtain ⟨c1, c2, c3⟩ := reg_get hc.1 m4
  have hw : w64 (Core.PC c + 1) = Core.PC c + 1 := w64_id (by omega) (by omega)
  have hwk : w64 (Ins.K x) = Ins.K x := w64_id (by omega) (by omega)
  have hg : getO p (Core.PC c) = some x := by rw [hk, getO_nat, hx]
  have hD := r01_Do_eq (Ins.Op x) (regN_in hc m3) (regN_in hc m4)
  have hyes : 2 ≤ Ins.Op x ∧ Ins.Op x ≤ 8 → (word_Do (Ins.Op x) (regN c (Ins.B x)) (regN c (Ins.C x))).2 = true := fun h => by
    have : Ins.Op x = 2 ∨ Ins.Op x = 3 ∨ Ins.Op x = 4 ∨ Ins.Op x = 5 ∨ Ins.Op x = 6 ∨ Ins.Op x = 7 ∨ Ins.Op x = 8 := by omega
    rcases this with e | e | e | e | e | e | e <;> simp [word_Do, e]
  have hno : ¬ (2 ≤ Ins.Op x ∧ Ins.Op x ≤ 8) → (word_Do (Ins.Op x) (regN c (Ins.B x)) (regN c (Ins.C x))).2 = false := fun h => by
    have hd : ∀ k : Int, 2 ≤ k → k ≤ 8 → decide (Ins.Op x = k) = false := fun k h1 h2 => decide_eq_false (by omega)
    simp [word_Do, hd]
  unfold r03_Done doneS
  rw [r03_Right_eq p c (by omega) hKs, hr]
  simp only [hh, Option.bind_some, Bool.not_true, Bool.false_eq_true, if_false, hg, hw, hwk]
  by_cases o1 : Ins.Op x = 16
  · simp [o1]
  · by_cases o2 : Ins.Op x = 13
    · simp [o2, hh]
    · by_cases o3 : Ins.Op x = 14
      · by_cases hz : regN c (Ins.A x) = 0 <;> simp [o3, a1, a2, hz, hh, hno (show ¬ (2 ≤ Ins.Op x ∧ Ins.Op x ≤ 8) by omega), word_Do]
      · by_cases o4 : Ins.Op x = 1
        · simp [o4, a1, a3, hh]
        · by_cases o5 : Ins.Op x = 9 ∨ Ins.Op x = 11
          · have hb : (decide ((Ins.Op x) = (9 : Int)) || decide ((Ins.Op x) = (11 : Int))) = true := by
              rcases o5 with e | e <;> simp [e]
            have h28 : (decide ((2 : Int) ≤ Ins.Op x) && decide (Ins.Op x ≤ (8 : Int))) = false := by
              rcases o5 with e | e <;> simp [e]
            simp [o1, o2, o3, o4, o5, h28, a1, a3, hh]
          · have hb : (decide ((Ins.Op x) = (9 : Int)) || decide ((Ins.Op x) = (11 : Int))) = false := by
              have e1 : ¬ Ins.Op x = 9 := fun e => o5 (.inl e)
              have e2 : ¬ Ins.Op x = 11 := fun e => o5 (.inr e)
              simp [e1, e2]
            by_cases o6 : 2 ≤ Ins.Op x ∧ Ins.Op x ≤ 8
            · have h28 : (decide ((2 : Int) ≤ Ins.Op x) && decide (Ins.Op x ≤ (8 : Int))) = true := by simp [o6]
              simp only [o1, o2, o3, o4, o5, hb, h28, decide_false, Bool.false_eq_true, if_false, if_true, Option.bind_some, Core.setPC_eq, Core.Regs_mk, a1, a3, b1, b2, c1, c2, hD, hyes o6, Core.setRegs_eq, Core.PC_mk, Core.Halted_mk, hh]
            · have h28 : (decide ((2 : Int) ≤ Ins.Op x) && decide (Ins.Op x ≤ (8 : Int))) = false := by
                rw [Bool.and_eq_false_iff, decide_eq_false_iff_not, decide_eq_false_iff_not]; omega
              simp only [o1, o2, o3, o4, o5, hb, h28, decide_false, Bool.false_eq_true, if_false, Option.bind_some, Core.setPC_eq, hno o6, hh]

theorem r03_Done_same {p : List Ins} (hKs : ∀ x ∈ p, 0 ≤ Ins.K x ∧ Ins.K x < 4294967296) {c : Core} (hp : p.length ≤ 1000) (h : rightC p c = false ∨ Core.Halted c = true) (was : Int) : r03_Done p c was = some c := by
  unfold r03_Done
  rw [r03_Right_eq p c hp hKs]
  rcases h with h | h
  · simp [h]
  · cases rightC p c <;> simp [h]
theorem r03_Wants_rest {p : List Ins} (hKs : ∀ x ∈ p, 0 ≤ Ins.K x ∧ Ins.K x < 4294967296) {c : Core} (hp : p.length ≤ 1000) (h : rightC p c = false ∨ Core.Halted c = true) (words : Int) : r03_Wants p c words = some (Want.mk 5 0 0 0) := by
  unfold r03_Wants
  rw [r03_Right_eq p c hp hKs]
  rcases h with h | h
  · simp [h]
  · cases rightC p c <;> simp [h]

end Go.Proofs.Ytihchahfnhoapaa
