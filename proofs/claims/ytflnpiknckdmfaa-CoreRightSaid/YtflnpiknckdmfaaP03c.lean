/- Layer 3: the law CoreOrder on typed data. -/
import Derived.Test.YtflnpiknckdmfaaP03b
import Derived.Test.YtflnpiknckdmfaaD033
set_option linter.unusedSimpArgs false
set_option linter.unusedVariables false
namespace Go.Proofs.Ytflnpiknckdmfaa
open Go.SX

theorem wu32_in (n : Int) : 0 ≤ wu32 n ∧ wu32 n < 4294967296 := by
  rw [wu32_mod]
  exact ⟨Int.emod_nonneg _ (by omega), Int.emod_lt_of_pos _ (by omega)⟩

theorem word_Do_in (op a b : Int) : 0 ≤ (word_Do op a b).1 ∧ (word_Do op a b).1 < 4294967296 := by
  have h1 : 0 ≤ bAnd .u32 a b ∧ bAnd .u32 a b < 4294967296 := wu32_in _
  have h2 : 0 ≤ bXor .u32 a b ∧ bXor .u32 a b < 4294967296 := wu32_in _
  have ht : ∀ t, 0 ≤ word_truth t ∧ word_truth t < 4294967296 := fun t => by cases t <;> simp [word_truth]
  unfold word_Do
  simp only
  cases decide (op = 2) with
  | true => exact wu32_in _
  | false =>
    cases decide (op = 3) with
    | true => exact wu32_in _
    | false =>
      cases decide (op = 4) with
      | true => exact wu32_in _
      | false =>
        cases decide (op = 5) with
        | true => exact h1
        | false =>
          cases decide (op = 6) with
          | true => exact h2
          | false =>
            cases decide (op = 7) with
            | true => exact ht _
            | false =>
              cases decide (op = 8) with
              | true => exact ht _
              | false => exact ⟨Int.le_refl 0, show (0 : Int) < 4294967296 by omega⟩

theorem putN_ok {c : Core} (h : RegsOk c) (i : Int) {v : Int} (hv : 0 ≤ v ∧ v < 4294967296) : (putN c i v).length = 8 ∧ ∀ r ∈ putN c i v, 0 ≤ r ∧ r < 4294967296 := by
  unfold putN
  refine ⟨by rw [List.length_set]; exact h.1, fun r hr => ?_⟩
  rcases List.mem_or_eq_of_mem_set hr with h1 | h1
  · exact h.2 r h1
  · rw [h1]; exact hv

theorem doneS_regs {x : Ins} {c : Core} (h : RegsOk c) (hK : 0 ≤ Ins.K x ∧ Ins.K x < 4294967296) {was : Int} (hw : 0 ≤ was ∧ was < 4294967296) : RegsOk (doneS x c was) := by
  unfold doneS
  split
  · exact putN_ok h _ hK
  · split
    · exact putN_ok h _ hw
    · split
      · exact h
      · split
        · exact h
        · split
          · exact h
          · unfold RegsOk
            simp only [Core.Regs_mk]
            split
            · exact putN_ok h _ (word_Do_in _ _ _)
            · exact h

/-- A core's step changes one register at most. -/
theorem doneS_one {x : Ins} {c : Core} {was : Int} (hA : 0 ≤ Ins.A x) (i : Nat) (hi : (i : Int) ≠ Ins.A x) : (Core.Regs (doneS x c was))[i]? = (Core.Regs c)[i]? := by
  have hs : ∀ v, (putN c (Ins.A x) v)[i]? = (Core.Regs c)[i]? := fun v => by
    unfold putN
    rw [List.getElem?_set_ne (by omega)]
  unfold doneS
  split
  · exact hs _
  · split
    · exact hs _
    · split
      · rfl
      · split
        · rfl
        · split
          · rfl
          · simp only [Core.Regs_mk]
            split
            · exact hs _
            · rfl

theorem doneS_none {x : Ins} {c : Core} {was : Int} (h : Ins.Op x = 10 ∨ Ins.Op x = 15 ∨ Ins.Op x = 16) : Core.Regs (doneS x c was) = Core.Regs c := by
  unfold doneS
  rw [if_neg (by omega), if_neg (by omega), if_neg (by omega), if_neg (by omega)]
  split
  · rfl
  · have : (word_Do (Ins.Op x) (regN c (Ins.B x)) (regN c (Ins.C x))).2 = false := by
      rcases h with e | e | e <;> rw [e] <;> rfl
    simp [this]

/-! ### How many registers changed -/
def diffB (c d : Core) (i : Nat) : Bool := !decide ((Core.Regs c)[i]?.getD 0 = (Core.Regs d)[i]?.getD 0)
def cnt (c d : Core) : Nat → Int
  | 0 => 0
  | n + 1 => bif diffB c d n then cnt c d n + 1 else cnt c d n

theorem cnt_le (c d : Core) : ∀ n, 0 ≤ cnt c d n ∧ cnt c d n ≤ n
  | 0 => ⟨Int.le_refl _, Int.le_refl _⟩
  | n + 1 => by
    have := cnt_le c d n
    unfold cnt
    cases diffB c d n <;> simp <;> omega

theorem cnt_zero {c d : Core} : ∀ n, (∀ i, i < n → diffB c d i = false) → cnt c d n = 0
  | 0, _ => rfl
  | n + 1, h => by
    unfold cnt
    rw [h n (by omega)]
    exact cnt_zero n fun i hi => h i (by omega)

theorem cnt_one {c d : Core} {a : Nat} : ∀ n, (∀ i, i < n → i ≠ a → diffB c d i = false) → cnt c d n ≤ 1
  | 0, _ => by simp [cnt]
  | n + 1, h => by
    unfold cnt
    by_cases hn : n = a
    · have := cnt_zero (c := c) (d := d) n fun i hi => h i (by omega) (by omega)
      rw [this]
      cases diffB c d n <;> simp
    · rw [h n (by omega) hn]
      exact cnt_one n fun i hi hia => h i (by omega) hia

theorem turned_eq {c d : Core} (hc : (Core.Regs c).length = 8) (hd : (Core.Regs d).length = 8) : loopD (l03_CoreOrder_L1 c d) ((0 : Int), (0 : Int)) = some (cnt c d 8) := by
  have h := loop_to (f := l03_CoreOrder_L1 c d) (fun i => (cnt c d i, (i : Int))) (n := 0) (m := 8) (by omega) (fun i _ hi => by
    have hlt : (i : Int) < 8 := by omega
    have hw : w64 ((i : Int) + 1) = ((i + 1 : Nat) : Int) := by rw [w64_id (by omega) (by omega)]; omega
    have hix : idxO 8 (i : Int) = some (i : Int) := idxO_lt (by omega) (by omega)
    have hcl := cnt_le c d i
    have hw2 : w64 (cnt c d i + 1) = cnt c d i + 1 := w64_id (by omega) (by omega)
    have h1 : i < (Core.Regs c).length := by omega
    have h2 : i < (Core.Regs d).length := by omega
    have e1 : (Core.Regs c)[i]? = some ((Core.Regs c)[i]?.getD 0) := by rw [List.getElem?_eq_getElem h1]; rfl
    have e2 : (Core.Regs d)[i]? = some ((Core.Regs d)[i]?.getD 0) := by rw [List.getElem?_eq_getElem h2]; rfl
    unfold l03_CoreOrder_L1
    simp only [hlt, decide_true, if_true, hix, Option.bind_some, getO_nat, hw, hw2, cnt, diffB]
    rw [e1, e2]
    simp only [Option.bind_some, Option.getD_some])
  have h0 : (cnt c d 0, ((0 : Nat) : Int)) = ((0 : Int), (0 : Int)) := rfl
  rw [h0] at h
  have he : l03_CoreOrder_L1 c d (cnt c d 8, ((8 : Nat) : Int)) = some (.inr (cnt c d 8)) := by
    unfold l03_CoreOrder_L1
    simp
  rw [h, loop_out he]

/-- A core that goes on stays one. -/
theorem doneS_right {p : List Ins} {c : Core} (hr : rightC p c = true) {k : Nat} (hk : Core.PC c = (k : Int)) {x : Ins} (hx : p[k]? = some x) (hK : 0 ≤ Ins.K x ∧ Ins.K x < 4294967296) (was : Int) : rightC p (doneS x c was) = true := by
  obtain ⟨k', x', f1, f2, f3, f4, f5⟩ := rightC_facts hr
  have : k' = k := by omega
  subst this
  rw [hx] at f4
  cases f4
  have hrp : rightP p = true := by
    unfold rightC at hr
    rw [Bool.and_eq_true] at hr
    exact hr.1
  have hlast : ¬ (Ins.Op x = 16 ∨ Ins.Op x = 13) → k' + 1 < p.length := fun hne => by
    rcases Nat.lt_or_ge (k' + 1) p.length with h | h
    · exact h
    · exfalso
      have hk1 : p.length - 1 = k' := by omega
      unfold rightP at hrp
      rw [hk1, hx] at hrp
      simp only [Bool.and_eq_true, endsB, Bool.or_eq_true, decide_eq_true_eq] at hrp
      exact hne hrp.2.1
  have hgoal : Ins.Op x = 13 ∨ Ins.Op x = 14 → Ins.K x < (p.length : Int) := may_goal f5 hK (by omega)
  have hpc : 0 ≤ Core.PC (doneS x c was) ∧ Core.PC (doneS x c was) < (p.length : Int) := by
    unfold doneS
    split
    · have := hlast (by omega)
      simp only [Core.PC_mk]; omega
    · split
      · have := hlast (by omega)
        simp only [Core.PC_mk]; omega
      · split
        · have := hgoal (by omega)
          simp only [Core.PC_mk]; omega
        · split
          · have h1 := hgoal (by omega)
            have h2 := hlast (by omega)
            simp only [Core.PC_mk]
            split <;> omega
          · split
            · simp only [Core.PC_mk]; omega
            · have := hlast (by omega)
              simp only [Core.PC_mk]; omega
  unfold rightC
  rw [hrp, decide_eq_true hpc.1, decide_eq_true hpc.2]
  rfl

theorem wantS_in {x : Ins} {c : Core} (hc : RegsOk c) (hB : 0 ≤ Ins.B x ∧ Ins.B x < 8) {n : Int} (hn : 1 ≤ n) :
    (0 ≤ Want.At (wantS x c n) ∧ Want.At (wantS x c n) < n) ∧ (0 ≤ Want.Kind (wantS x c n) ∧ Want.Kind (wantS x c n) ≤ 5) ∧
    (Want.Kind (wantS x c n) = 5 → Ins.Op x = 16) ∧ (Want.Kind (wantS x c n) = 2 → Ins.Op x = 10) ∧ (Want.Kind (wantS x c n) = 4 → Ins.Op x = 15) := by
  have hb := regN_in hc hB
  have hp : 0 ≤ placeN (regN c (Ins.B x)) n ∧ placeN (regN c (Ins.B x)) n < n := by
    unfold placeN
    rw [if_neg (by omega)]
    exact ⟨Int.emod_nonneg _ (by omega), Int.emod_lt_of_pos _ (by omega)⟩
  unfold wantS
  split
  · simp only [Want.At_mk, Want.Kind_mk]; omega
  · split
    · simp only [Want.At_mk, Want.Kind_mk]; omega
    · split
      · simp only [Want.At_mk, Want.Kind_mk]; omega
      · split
        · simp only [Want.At_mk, Want.Kind_mk]; omega
        · split
          · simp only [Want.At_mk, Want.Kind_mk]; omega
          · simp only [Want.At_mk, Want.Kind_mk]; omega

/-- One round. -/
theorem order_step {p : List Ins} (hp : ∀ x ∈ p, 0 ≤ Ins.K x ∧ Ins.K x < 4294967296) (hpl : p.length ≤ 80) {l : List Int} (hlm : l.length ≤ maxLen) (hl : ∀ a ∈ l, 0 ≤ a ∧ a < 4294967296) {n : Int} (hn : 1 ≤ n ∧ n ≤ 64)
    {i : Nat} (hi : i < l.length ∧ i < 200) {c : Core} (hr : rightC p c = true) (hc : RegsOk c) :
    ∃ c', l03_CoreOrder_L2 p l n ((i : Int), c) = some (.inl ((i : Int) + 1, c')) ∧ rightC p c' = true ∧ RegsOk c' := by
  have hcond : (decide ((i : Int) < (l.length : Int)) && decide ((i : Int) < 200)) = true := by
    rw [Bool.and_eq_true, decide_eq_true_eq, decide_eq_true_eq]; omega
  have hw1 : w64 ((i : Int) + 1) = (i : Int) + 1 := w64_id (by omega) (by omega)
  obtain ⟨a, ha⟩ : ∃ a, l[i]? = some a := ⟨_, List.getElem?_eq_getElem hi.1⟩
  have hab := hl a (List.mem_of_getElem? ha)
  have hR := fun d => core_Right_eq p d (by omega)
  rcases Bool.eq_false_or_eq_true (Core.Halted c) with hh | hh
  · have hW := core_Wants_rest (p := p) (c := c) (by omega) (.inr hh) n
    have hD := fun was => core_Done_same (p := p) (c := c) (by omega) (.inr hh) was
    have hT := turned_eq hc.1 hc.1
    have h0 : cnt c c 8 = 0 := cnt_zero 8 fun j _ => by simp [diffB]
    rw [h0] at hT
    have hn1 : ¬ n ≤ 0 := by omega
    refine ⟨c, ?_, hr, hc⟩
    unfold l03_CoreOrder_L2
    simp only [hcond, if_true]
    simp [hW, getO_nat, ha, hD, hR, hr, hn1, hh, hT, hw1]
  · obtain ⟨k, x, f1, f2, f3, f4, f5⟩ := rightC_facts hr
    have hK := hp x (List.mem_of_getElem? f4)
    obtain ⟨g1, g2, g3, g4⟩ := may_facts f5
    have hW := core_Wants_eq hr hh hc f1 f4 (words := n) (by omega)
    have hD := fun was => core_Done_eq hr hh hc.1 f1 f4 hK was
    have hrd := doneS_right hr f1 f4 hK a
    have hcd := doneS_regs hc hK hab
    have hT := turned_eq hc.1 hcd.1
    obtain ⟨⟨w1, w2⟩, ⟨w3, w4⟩, w5, w6, w7⟩ := wantS_in hc g3 hn.1
    have e1 : ¬ Want.At (wantS x c n) < 0 := by omega
    have e2 : ¬ n ≤ Want.At (wantS x c n) := by omega
    have e3 : ¬ Want.Kind (wantS x c n) < 0 := by omega
    have e4 : ¬ 5 < Want.Kind (wantS x c n) := by omega
    have c1 : ¬ 1 < cnt c (doneS x c a) 8 := by
      have := cnt_one (c := c) (d := doneS x c a) (a := (Ins.A x).toNat) 8 fun j _ hj => by
        have := doneS_one (x := x) (c := c) (was := a) g2.1 j (by omega)
        simp [diffB, this]
      omega
    have hnone : (Ins.Op x = 10 ∨ Ins.Op x = 15 ∨ Ins.Op x = 16) → cnt c (doneS x c a) 8 = 0 := fun ho => cnt_zero 8 fun j _ => by
      have := doneS_none (c := c) (was := a) ho
      simp [diffB, this]
    refine ⟨doneS x c a, ?_, hrd, hcd⟩
    unfold l03_CoreOrder_L2
    simp only [hcond, if_true]
    simp only [hW, Option.bind_some, getO_nat, ha, hD, hR, hrd, Bool.not_true, Bool.false_eq_true, if_false, e1, e2, e3, e4, decide_false, hh, hT, c1]
    by_cases k5 : Want.Kind (wantS x c n) = 5
    · have ho := w5 k5
      have hz := hnone (.inr (.inr ho))
      have hHd : Core.Halted (doneS x c a) = true := by
        unfold doneS
        rw [if_neg (by omega), if_neg (by omega), if_neg (by omega), if_neg (by omega), if_pos ho]
        rfl
      have hW2 := core_Wants_rest (p := p) (c := doneS x c a) (by omega) (.inr hHd) n
      have hws : wantS x c n = Want.mk 5 0 0 0 := by
        unfold wantS
        rw [if_pos ho]
      rw [hws]
      simp [hz, hHd, hW2, hw1]
    · by_cases k2 : Want.Kind (wantS x c n) = 2
      · have ho := w6 k2
        have hz := hnone (.inl ho)
        have hs := doneS_same (x := x) (c := c) (by omega) a 0
        simp [k5, k2, hz, ← hs, hw1]
      · by_cases k4 : Want.Kind (wantS x c n) = 4
        · have ho := w7 k4
          have hz := hnone (.inr (.inl ho))
          have hs := doneS_same (x := x) (c := c) (by omega) a 0
          simp [k5, k2, k4, hz, ← hs, hw1]
        · simp [k5, k2, k4, hw1]

theorem coreOrder_all (p : List Ins) (regs answers : List Int) (words : Int) (hp : ∀ x ∈ p, 0 ≤ Ins.K x ∧ Ins.K x < 4294967296) (hc : regs.length = 8 ∧ ∀ r ∈ regs, 0 ≤ r ∧ r < 4294967296)
    (hlm : answers.length ≤ maxLen) (hl : ∀ a ∈ answers, 0 ≤ a ∧ a < 4294967296) (hm : 0 ≤ words ∧ words ≤ 255) : l03_CoreOrder p regs answers words = some true := by
  unfold l03_CoreOrder
  by_cases h80 : (80 : Int) < (p.length : Int)
  · simp [l03_awake, h80]
  · have hpl : p.length ≤ 80 := by omega
    have hRe := core_Right_eq p (Core.mk regs 0 false) (by omega)
    cases hr : rightC p (Core.mk regs 0 false) with
    | false =>
      rw [hr] at hRe
      simp [l03_awake, h80, hRe]
    | true =>
      rw [hr] at hRe
      obtain ⟨m1, m2, m3⟩ := rem_lt (a := words) (n := 64) hm.1 (by omega)
      generalize words % 64 = r at m1 m2 m3
      have wr : w64 r = r := w64_id (by omega) (by omega)
      have wn : w64 (r + 1) = r + 1 := w64_id (by omega) (by omega)
      have hloop := loop_rule (f := l03_CoreOrder_L2 p answers (r + 1))
        (I := fun s => ∃ i : Nat, s.1 = (i : Int) ∧ i ≤ answers.length ∧ i ≤ 200 ∧ rightC p s.2 = true ∧ RegsOk s.2)
        (μ := fun s => answers.length - s.1.toNat) (Q := fun q => q = .inl ()) (fun s ⟨i, s1, s2, s3, s4, s5⟩ => by
          obtain ⟨ii, c⟩ := s
          simp only at s1 s2 s3 s4 s5
          subst s1
          by_cases hil : i < answers.length ∧ i < 200
          · obtain ⟨c', e1, e2, e3⟩ := order_step hp hpl hlm hl (n := r + 1) (by omega) hil s4 s5
            refine .inl ⟨_, e1, ⟨i + 1, by simp, by omega, by omega, e2, e3⟩, ?_⟩
            simp only
            omega
          · refine .inr ⟨.inl (), ?_, rfl⟩
            have hcf : (decide ((i : Int) < (answers.length : Int)) && decide ((i : Int) < 200)) = false := by
              rw [Bool.and_eq_false_iff, decide_eq_false_iff_not, decide_eq_false_iff_not]; omega
            unfold l03_CoreOrder_L2
            simp only [hcf, Bool.false_eq_true, if_false]) (s := ((0 : Int), Core.mk regs 0 false)) ⟨0, rfl, Nat.zero_le _, Nat.zero_le _, hr, hc⟩
      obtain ⟨r', hr1, hr2⟩ := hloop
      subst hr2
      simp [l03_awake, h80, hRe, m1, wr, wn, hr1]

theorem coreOrder_ok (x : Ty.Tup F_l03_CoreOrder.ps) (h : OkL F_l03_CoreOrder.ps x) : F_l03_CoreOrder.sem x = some true :=
  coreOrder_all x.1 x.2.1 x.2.2.1 x.2.2.2
    (fun y hy => by
      have := (h.1.2 y hy).2.2.2.2
      exact ⟨this.1, by have := this.2; exact Int.lt_of_le_of_lt this (by decide)⟩)
    ⟨h.2.1.1, fun r hr => by
      have := h.2.1.2 r hr
      exact ⟨this.1, by have := this.2; exact Int.lt_of_le_of_lt this (by decide)⟩⟩
    h.2.2.1.1
    (fun r hr => by
      have := h.2.2.1.2 r hr
      exact ⟨this.1, by have := this.2; exact Int.lt_of_le_of_lt this (by decide)⟩)
    h.2.2.2

end Go.Proofs.Ytflnpiknckdmfaa
