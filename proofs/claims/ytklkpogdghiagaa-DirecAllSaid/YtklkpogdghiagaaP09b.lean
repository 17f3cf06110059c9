/- Layer 9: what Write, Back, Alone tell; the law DirecRight on typed data. -/
import Derived.Test.YtklkpogdghiagaaP09
import Derived.Test.YtklkpogdghiagaaD09n3
set_option linter.unusedSimpArgs false
set_option linter.unusedVariables false
namespace Go.Proofs.Ytklkpogdghiagaa
open Go.SX

theorem Write_L1_eq : direc_Write_L1 = direc_Read_L1 := rfl

def writeS (e : Entry) (n : Int) : Entry × Int × List Int × Int :=
  if hasB e n = true then (Entry.mk (n + 1) (List.replicate (Entry.Share e).length false), Entry.Owner e, othersN (Entry.Share e) n (Entry.Share e).length, 0) else (e, 0, [], 1)
theorem direc_Write_eq (e : Entry) (n : Int) (hl : (Entry.Share e).length ≤ 1000) : direc_Write e n = some (writeS e n) := by
  unfold direc_Write writeS
  rw [clone1 hl, Write_L1_eq]
  simp only [Option.bind_some, Entry.eta, direc_has_eq]
  rcases Bool.eq_false_or_eq_true (hasB e n) with hh | hh
  rotate_left
  · simp [hh]
  · obtain ⟨h1, h2, h3, h4, h5⟩ := hasB_iff hh
    have hw : w64 (n + 1) = n + 1 := w64_id (by omega) (by omega)
    simp only [hh, Bool.not_true, Bool.false_eq_true, if_false, if_true, others_loop _ _ hl, Option.bind_some, hw]
theorem r09_Write_eq (e : Entry) (n : Int) (hl : (Entry.Share e).length ≤ 1000) : r09_Write e n = some (writeS e n) := by
  unfold r09_Write writeS
  rw [r09_has_eq]
  simp only [Option.bind_some]
  rcases Bool.eq_false_or_eq_true (hasB e n) with hh | hh
  rotate_left
  · simp [hh]
  · obtain ⟨h1, h2, h3, h4, h5⟩ := hasB_iff hh
    have hw : w64 (n + 1) = n + 1 := w64_id (by omega) (by omega)
    simp only [hh, Bool.not_true, Bool.false_eq_true, if_false, if_true, r09_Others_eq _ _ hl, Option.bind_some, hw, rep1 hl]

def backS (e : Entry) (n : Int) : Entry × Int :=
  if hasB e n = true then (if Entry.Owner e = n + 1 then (Entry.mk 0 (Entry.Share e), 0) else (e, 7)) else (e, 1)
theorem direc_Back_eq (e : Entry) (n : Int) (hl : (Entry.Share e).length ≤ 1000) : direc_Back e n = some (backS e n) := by
  unfold direc_Back backS
  rw [clone1 hl]
  simp only [Option.bind_some, Entry.eta, direc_has_eq]
  rcases Bool.eq_false_or_eq_true (hasB e n) with hh | hh
  rotate_left
  · simp [hh]
  · obtain ⟨h1, h2, h3, h4, h5⟩ := hasB_iff hh
    have hw : w64 (n + 1) = n + 1 := w64_id (by omega) (by omega)
    by_cases h6 : Entry.Owner e = n + 1 <;> simp [hh, hw, h6]
theorem r09_Back_eq (e : Entry) (n : Int) : r09_Back e n = some (backS e n) := by
  unfold r09_Back backS
  rw [r09_has_eq]
  simp only [Option.bind_some]
  rcases Bool.eq_false_or_eq_true (hasB e n) with hh | hh
  rotate_left
  · simp [hh]
  · obtain ⟨h1, h2, h3, h4, h5⟩ := hasB_iff hh
    have hw : w64 (n + 1) = n + 1 := w64_id (by omega) (by omega)
    by_cases h6 : Entry.Owner e = n + 1 <;> simp [hh, hw, h6]

theorem Index_true (l : List Bool) (hl : (l.length : Int) ≤ 9223372036854775807) : (true ∈ l ∧ ∃ i : Nat, slices_Index_bool_bool l true = some (i : Int)) ∨ (true ∉ l ∧ slices_Index_bool_bool l true = some (-1)) := by
  have step : ∀ i : Nat, i < l.length → slices_Index_bool_bool_L1 l true (l.length : Int) i = some (if l[i]? = some true then .inr (.inr (i : Int)) else .inl ((i : Int) + 1)) := fun i hi => by
    have hw : w64 ((i : Int) + 1) = i + 1 := w64_id (by omega) (by omega)
    have hlt : (i : Int) < (l.length : Int) := by omega
    unfold slices_Index_bool_bool_L1
    rw [getO_nat, List.getElem?_eq_getElem hi]
    cases hb : l[i] <;> simp [hlt, hw, hb]
  have last : slices_Index_bool_bool_L1 l true (l.length : Int) (l.length : Int) = some (.inr (.inl ())) := by
    unfold slices_Index_bool_bool_L1
    simp
  simp only [slices_Index_bool_bool]
  rcases first_of (fun i => decide (l[i]? ≠ some true)) l.length with h | ⟨i, h1, h2, h3⟩
  · refine .inr ⟨fun hm => ?_, ?_⟩
    · obtain ⟨i, hi, e⟩ := List.getElem_of_mem hm
      have := h i hi
      simp [List.getElem?_eq_getElem hi, e] at this
    · have := loop_to (f := slices_Index_bool_bool_L1 l true (l.length : Int)) (fun i => (i : Int)) (n := 0) (m := l.length) (by omega) fun j _ hj => by
        rw [step j hj, if_neg (by simpa using h j hj)]
        simp
      rw [show loopD (slices_Index_bool_bool_L1 l true (l.length : Int)) 0 = some (.inl ()) from this.trans (loop_out last)]
      rfl
  · have h2' : l[i]? = some true := by simpa using h2
    refine .inl ⟨List.mem_of_getElem? h2', i, ?_⟩
    have := loop_to (f := slices_Index_bool_bool_L1 l true (l.length : Int)) (fun i => (i : Int)) (n := 0) (m := i) (by omega) fun j _ hj => by
      rw [step j (by omega), if_neg (by simpa using h3 j hj)]
      simp
    rw [show loopD (slices_Index_bool_bool_L1 l true (l.length : Int)) 0 = some (.inr (i : Int)) from this.trans (loop_out (by rw [step i h1, if_pos h2']))]
    rfl
theorem Contains_true (l : List Bool) (hl : (l.length : Int) ≤ 9223372036854775807) : slices_Contains_bool_bool l true = some (decide (true ∈ l)) := by
  unfold slices_Contains_bool_bool
  rcases Index_true l hl with ⟨h1, i, h2⟩ | ⟨h1, h2⟩
  · rw [h2]; simp [h1]
  · rw [h2]; simp [h1]
def aloneB (e : Entry) : Bool := mayB e ((Entry.Share e).length : Int) && (decide (0 < Entry.Owner e) && decide (true ∉ Entry.Share e))
theorem direc_Alone_eq (e : Entry) : direc_Alone e = some (aloneB e) := by
  unfold direc_Alone aloneB
  rw [direc_May_eq]
  cases hm : mayB e ((Entry.Share e).length : Int) with
  | false => simp
  | true =>
    have hl : ((Entry.Share e).length : Int) ≤ 9223372036854775807 := by
      simp [mayB] at hm
      omega
    simp only [Contains_true _ hl]
    by_cases h : 0 < Entry.Owner e <;> simp [h]

theorem Same_self (e : Entry) (hl : ((Entry.Share e).length : Int) ≤ 9223372036854775807) : r09_Same e e = some true := by
  have step : ∀ i : Nat, i < (Entry.Share e).length → r09_Same_L1 e e i = some (.inl ((i : Int) + 1)) := fun i hi => by
    have hw : w64 ((i : Int) + 1) = i + 1 := w64_id (by omega) (by omega)
    have hlt : (i : Int) < ((Entry.Share e).length : Int) := by omega
    unfold r09_Same_L1
    rw [getO_nat, List.getElem?_eq_getElem hi]
    simp [hlt, hw]
  have last : r09_Same_L1 e e ((Entry.Share e).length : Int) = some (.inr (.inl ())) := by
    unfold r09_Same_L1
    simp
  unfold r09_Same
  have := loop_to (f := r09_Same_L1 e e) (fun i => (i : Int)) (n := 0) (m := (Entry.Share e).length) (by omega) fun j _ hj => by
    rw [step j hj]
    simp
  rw [show loopD (r09_Same_L1 e e) 0 = some (.inl ()) from this.trans (loop_out last)]
  simp
theorem Ints_self (l : List Int) (hl : (l.length : Int) ≤ 9223372036854775807) : r09_Ints l l = some true := by
  have step : ∀ i : Nat, i < l.length → r09_Ints_L1 l l i = some (.inl ((i : Int) + 1)) := fun i hi => by
    have hw : w64 ((i : Int) + 1) = i + 1 := w64_id (by omega) (by omega)
    have hlt : (i : Int) < (l.length : Int) := by omega
    unfold r09_Ints_L1
    rw [getO_nat, List.getElem?_eq_getElem hi]
    simp [hlt, hw]
  have last : r09_Ints_L1 l l (l.length : Int) = some (.inr (.inl ())) := by
    unfold r09_Ints_L1
    simp
  unfold r09_Ints
  have := loop_to (f := r09_Ints_L1 l l) (fun i => (i : Int)) (n := 0) (m := l.length) (by omega) fun j _ hj => by
    rw [step j hj]
    simp
  rw [show loopD (r09_Ints_L1 l l) 0 = some (.inl ()) from this.trans (loop_out last)]
  simp

theorem direc_New_eq (c : Int) : ∃ r, direc_New c = some r ∧ r09_New c = some r ∧ ((Entry.Share r.1).length : Int) ≤ 4 := by
  rw [← New_eq]
  unfold direc_New
  by_cases h : c < 1 ∨ 4 < c
  · exact ⟨_, by rw [if_pos (by simpa using h)], by rw [if_pos (by simpa using h)], by simp⟩
  · obtain ⟨k, rfl⟩ : ∃ k : Nat, c = (k : Int) := ⟨c.toNat, by omega⟩
    have hc : ¬ (decide ((k : Int) < 1) || decide (4 < (k : Int))) = true := by simpa using h
    have hr : repO false 1 (k : Int) (k : Int) = some (List.replicate k false) := rep1 (by omega)
    refine ⟨(Entry.mk 0 (List.replicate k false), 0), by rw [if_neg hc, hr]; rfl, by rw [if_neg hc, hr]; rfl, ?_⟩
    simp
    omega

theorem backS_len (e : Entry) (n : Int) : (Entry.Share (backS e n).1).length = (Entry.Share e).length := by
  unfold backS; split <;> (try split) <;> simp
theorem readS_len (e : Entry) (n : Int) : (Entry.Share (readS e n).1).length = (Entry.Share e).length := by
  unfold readS; split <;> (try split) <;> (try split) <;> simp
theorem writeS_len (e : Entry) (n : Int) : (Entry.Share (writeS e n).1).length = (Entry.Share e).length ∧ (writeS e n).2.2.1.length ≤ (Entry.Share e).length := by
  unfold writeS; split
  · exact ⟨by simp, othersN_len _ _ _⟩
  · exact ⟨rfl, by simp⟩

/-- The law. -/
theorem direcRight_all (e : Entry) (n c : Int) (hl : ((Entry.Share e).length : Int) ≤ 9223372036854775807) : l09_DirecRight e n c = some true := by
  unfold l09_DirecRight
  simp only [l09_awake, Bool.not_true, Bool.false_eq_true, if_false]
  by_cases h20 : (20 : Int) < ((Entry.Share e).length : Int)
  · simp [h20]
  · have hl' : (Entry.Share e).length ≤ 1000 := by omega
    obtain ⟨r, hr1, hr2, hr3⟩ := direc_New_eq c
    have s1 := Same_self (readS e n).1 (by rw [readS_len]; exact hl)
    have s2 := Same_self (writeS e n).1 (by rw [(writeS_len e n).1]; exact hl)
    have s3 := Same_self (backS e n).1 (by rw [backS_len]; exact hl)
    have s4 := Same_self r.1 (by omega)
    have s5 := Same_self e hl
    have s6 := Ints_self (writeS e n).2.2.1 (by have := (writeS_len e n).2; omega)
    have hal : (decide (0 < Entry.Owner e) && decide (true ∉ Entry.Share e)) = (decide (0 < Entry.Owner e) && decide ((othersN (Entry.Share e) (-1) (Entry.Share e).length).length = 0)) := by
      congr 1
      refine decide_eq_decide.2 ⟨fun h => ?_, fun h => ?_⟩
      · have : ∀ k, othersN (Entry.Share e) (-1) k = [] := fun k => by
          induction k with
          | zero => rfl
          | succ k ih =>
            simp only [othersN]
            rw [if_neg (fun hc => h (List.mem_of_getElem? hc.1)), ih]
        rw [this]; rfl
      · intro hm
        obtain ⟨i, hi, e1⟩ := List.getElem_of_mem hm
        exact othersN_nil (List.eq_nil_of_length_eq_zero h) i hi (by omega) (by rw [List.getElem?_eq_getElem hi, e1])
    have h20' : decide ((20 : Int) < ((Entry.Share e).length : Int)) = false := decide_eq_false h20
    simp only [h20', Bool.false_eq_true, if_false, app1 hl', Option.bind_some, Entry.eta, direc_Read_eq _ _ hl', r09_Read_eq _ _ hl', direc_Write_eq _ _ hl', r09_Write_eq _ _ hl', direc_Back_eq _ _ hl', r09_Back_eq, s1, s2, s3, s4, s5, s6, hr1, hr2, direc_May_eq, r09_May_eq, direc_Alone_eq, r09_Others_eq _ _ hl', decide_true, Bool.not_true, if_true]
    cases hm : mayB e ((Entry.Share e).length : Int) with
    | false => simp [aloneB, hm]
    | true =>
      by_cases ho : 0 < Entry.Owner e
      · simp only [ho, decide_true, Bool.true_and] at hal
        simp [aloneB, hm, ho, hal]
      · simp [aloneB, hm, ho]

theorem direcRight_ok (x : Ty.Tup F_l09_DirecRight.ps) (h : OkL F_l09_DirecRight.ps x) : F_l09_DirecRight.sem x = some true :=
  direcRight_all x.1 x.2.1 x.2.2 (by
    have h1 : @List.length Bool (Entry.Share x.1) ≤ maxLen := h.1.2.1
    have h2 := maxLen_lt
    have h3 : (@List.length Bool (Entry.Share x.1) : Int) ≤ (maxLen : Int) := by omega
    exact Int.le_trans h3 (by omega))

end Go.Proofs.Ytklkpogdghiagaa
