/- Layer 3: the law CoreOrder on typed data. -/
import Derived.Test.YtihchahfnhoapaaPS03b
set_option linter.unusedSimpArgs false
set_option linter.unusedVariables false
namespace Go.Proofs.Ytihchahfnhoapaa
open Go.SX

theorem wu32_in (n : Int) : 0 ≤ wu32 n ∧ wu32 n < 4294967296 := by
  rw [wu32_mod]
  exact ⟨Int.emod_nonneg _ (by omega), Int.emod_lt_of_pos _ (by omega)⟩

theorem word_Do_in (op a b : Int) : 0 ≤ (word_Do op a b).1 ∧ (word_Do op a b).1 < 4294967296 := by
  have h1 : 0 ≤ bAnd .u32 a b ∧ bAnd .u32 a b < 4294967296 := wu32_in _
  have h2 : 0 ≤ bXor .u32 a b ∧ bXor .u32 a b < 4294967296 := wu32_in _
  have ht : ∀ t, 0 ≤ word_truth t ∧ word_truth t < 4294967296 := fun t => by cases t <;> simp [word_truth]
  unfold word_Do
  simp only
  cases decide (op = 2) with
  | true => exact wu32_in _
  | false =>
    cases decide (op = 3) with
    | true => exact wu32_in _
    | false =>
      cases decide (op = 4) with
      | true => exact wu32_in _
      | false =>
        cases decide (op = 5) with
        | true => exact h1
        | false =>
          cases decide (op = 6) with
          | true => exact h2
          | false =>
            cases decide (op = 7) with
            | true => exact ht _
            | false =>
              cases decide (op = 8) with
              | true => exact ht _
              | false => exact ⟨Int.le_refl 0, show (0 : Int) < 4294967296 by omega⟩

theorem putN_ok {c : Core} (h : RegsOk c) (i : Int) {v : Int} (hv : 0 ≤ v ∧ v < 4294967296) : (putN c i v).length = 8 ∧ ∀ r ∈ putN c i v, 0 ≤ r ∧ r < 4294967296 := by
  unfold putN
  refine ⟨by rw [List.length_set]; exact h.1, fun r hr => ?_⟩
  rcases List.mem_or_eq_of_mem_set hr with h1 | h1
  · exact h.2 r h1
  · rw [h1]; exact hv

theorem doneS_regs {x : Ins} {c : Core} (h : RegsOk c) (hK : 0 ≤ Ins.K x ∧ Ins.K x < 4294967296) {was : Int} (hw : 0 ≤ was ∧ was < 4294967296) : RegsOk (doneS x c was) := by
  unfold doneS
  split
  · exact putN_ok h _ hK
  · split
    · exact putN_ok h _ hw
    · split
      · exact h
      · split
        · exact h
        · split
          · exact h
          · unfold RegsOk
            simp only [Core.Regs_mk]
            split
            · exact putN_ok h _ (word_Do_in _ _ _)
            · exact h

/-- A core's step changes one register at most. -/
theorem doneS_one {x : Ins} {c : Core} {was : Int} (hA : 0 ≤ Ins.A x) (i : Nat) (hi : (i : Int) ≠ Ins.A x) : (Core.Regs (doneS x c was))[i]? = (Core.Regs c)[i]? := by
  have hs : ∀ v, (putN c (Ins.A x) v)[i]? = (Core.Regs c)[i]? := fun v => by
    unfold putN
    rw [List.getElem?_set_ne (by omega)]
  unfold doneS
  split
  · exact hs _
  · split
    · exact hs _
    · split
      · rfl
      · split
        · rfl
        · split
          · rfl
          · simp only [Core.Regs_mk]
            split
            · exact hs _
            · rfl

theorem doneS_none {x : Ins} {c : Core} {was : Int} (h : Ins.Op x = 10 ∨ Ins.Op x = 15 ∨ Ins.Op x = 16) : Core.Regs (doneS x c was) = Core.Regs c := by
  unfold doneS
  rw [if_neg (by omega), if_neg (by omega), if_neg (by omega), if_neg (by omega)]
  split
  · rfl
  · have : (word_Do (Ins.Op x) (regN c (Ins.B x)) (regN c (Ins.C x))).2 = false := by
      rcases h with e | e | e <;> rw [e] <;> rfl
    simp [this]

/-! ### How many registers changed -/
def diffB (c d : Core) (i : Nat) : Bool := !decide ((Core.Regs c)[i]?.getD 0 = (Core.Regs d)[i]?.getD 0)
def cnt (c d : Core) : Nat → Int
  | 0 => 0
  | n + 1 => bif diffB c d n then cnt c d n + 1 else cnt c d n

theorem cnt_le (c d : Core) : ∀ n, 0 ≤ cnt c d n ∧ cnt c d n ≤ n
  | 0 => ⟨Int.le_refl _, Int.le_refl _⟩
  | n + 1 => by
    have := cnt_le c d n
    unfold cnt
    cases diffB c d n <;> simp <;> omega

theorem cnt_zero {c d : Core} : ∀ n, (∀ i, i < n → diffB c d i = false) → cnt c d n = 0
  | 0, _ => rfl
  | n + 1, h => by
    unfold cnt
    rw [h n (by omega)]
    exact cnt_zero n fun i hi => h i (by omega)

theorem cnt_one {c d : Core} {a : Nat} : ∀ n, (∀ i, i < n → i ≠ a → diffB c d i = false) → cnt c d n ≤ 1
  | 0, _ => by simp [cnt]
  | n + 1, h => by
    unfold cnt
    by_cases hn : n = a
    · have := cnt_zero (c := c) (d := d) n fun i hi => h i (by omega) (by omega)
      rw [this]
      cases diffB c d n <;> simp
    · rw [h n (by omega) hn]
      exact cnt_one n fun i hi hia => h i (by omega) hia

theorem doneS_right {p : List Ins} {c : Core} (hr : rightC p c = true) {k : Nat} (hk : Core.PC c = (k : Int)) {x : Ins} (hx : p[k]? = some x) (hK : 0 ≤ Ins.K x ∧ Ins.K x < 4294967296) (was : Int) : rightC p (doneS x c was) = true := by
  obtain ⟨k', x', f1, f2, f3, f4, f5⟩ := rightC_facts hr
  have : k' = k := by omega
  subst this
  rw [hx] at f4
  cases f4
  have hrp : rightP p = true := by
    unfold rightC at hr
    rw [Bool.and_eq_true] at hr
    exact hr.1
  have hlast : ¬ (Ins.Op x = 16 ∨ Ins.Op x = 13) → k' + 1 < p.length := fun hne => by
    rcases Nat.lt_or_ge (k' + 1) p.length with h | h
    · exact h
    · exfalso
      have hk1 : p.length - 1 = k' := by omega
      unfold rightP at hrp
      rw [hk1, hx] at hrp
      simp only [Bool.and_eq_true, endsB, Bool.or_eq_true, decide_eq_true_eq] at hrp
      exact hne hrp.2.1
  have hgoal : Ins.Op x = 13 ∨ Ins.Op x = 14 → Ins.K x < (p.length : Int) := may_goal f5 hK (by omega)
  have hpc : 0 ≤ Core.PC (doneS x c was) ∧ Core.PC (doneS x c was) < (p.length : Int) := by
    unfold doneS
    split
    · have := hlast (by omega)
      simp only [Core.PC_mk]; omega
    · split
      · have := hlast (by omega)
        simp only [Core.PC_mk]; omega
      · split
        · have := hgoal (by omega)
          simp only [Core.PC_mk]; omega
        · split
          · have h1 := hgoal (by omega)
            have h2 := hlast (by omega)
            simp only [Core.PC_mk]
            split <;> omega
          · split
            · simp only [Core.PC_mk]; omega
            · have := hlast (by omega)
              simp only [Core.PC_mk]; omega
  unfold rightC
  rw [hrp, decide_eq_true hpc.1, decide_eq_true hpc.2]
  rfl

theorem wantS_in {x : Ins} {c : Core} (hc : RegsOk c) (hB : 0 ≤ Ins.B x ∧ Ins.B x < 8) {n : Int} (hn : 1 ≤ n) :
    (0 ≤ Want.At (wantS x c n) ∧ Want.At (wantS x c n) < n) ∧ (0 ≤ Want.Kind (wantS x c n) ∧ Want.Kind (wantS x c n) ≤ 5) ∧
    (Want.Kind (wantS x c n) = 5 → Ins.Op x = 16) ∧ (Want.Kind (wantS x c n) = 2 → Ins.Op x = 10) ∧ (Want.Kind (wantS x c n) = 4 → Ins.Op x = 15) := by
  have hb := regN_in hc hB
  have hp : 0 ≤ placeN (regN c (Ins.B x)) n ∧ placeN (regN c (Ins.B x)) n < n := by
    unfold placeN
    rw [if_neg (by omega)]
    exact ⟨Int.emod_nonneg _ (by omega), Int.emod_lt_of_pos _ (by omega)⟩
  unfold wantS
  split
  · simp only [Want.At_mk, Want.Kind_mk]; omega
  · split
    · simp only [Want.At_mk, Want.Kind_mk]; omega
    · split
      · simp only [Want.At_mk, Want.Kind_mk]; omega
      · split
        · simp only [Want.At_mk, Want.Kind_mk]; omega
        · split
          · simp only [Want.At_mk, Want.Kind_mk]; omega
          · simp only [Want.At_mk, Want.Kind_mk]; omega

end Go.Proofs.Ytihchahfnhoapaa
