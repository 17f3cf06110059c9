/- Layer 9: what the functions tell, in plain words. -/
import Derived.Test.YtklkpogdghiagaaD09n1
set_option linter.unusedSimpArgs false
set_option linter.unusedVariables false
namespace Go.Proofs.Ytklkpogdghiagaa
open Go.SX

theorem maxLen_lt : maxLen ≤ 9223372036854775807 := by decide

/-- May it be? -/
def mayB (e : Entry) (c : Int) : Bool :=
  decide (1 ≤ c ∧ c ≤ 4 ∧ ((Entry.Share e).length : Int) = c ∧ 0 ≤ Entry.Owner e ∧ Entry.Owner e ≤ c) && (decide (Entry.Owner e = 0) || decide ((Entry.Share e)[(Entry.Owner e - 1).toNat]? ≠ some true))

theorem direc_May_eq (e : Entry) (c : Int) : direc_May e c = some (mayB e c) := by
  unfold direc_May mayB
  by_cases h : 1 ≤ c ∧ c ≤ 4 ∧ ((Entry.Share e).length : Int) = c ∧ 0 ≤ Entry.Owner e ∧ Entry.Owner e ≤ c
  · obtain ⟨h1, h2, h3, h4, h5⟩ := h
    have e1 : ¬ c < 1 := by omega
    have e2 : ¬ 4 < c := by omega
    have e4 : ¬ Entry.Owner e < 0 := by omega
    have e5 : ¬ c < Entry.Owner e := by omega
    by_cases ho : Entry.Owner e = 0
    · have e6 : ¬ c < 0 := by omega
      have e7 : 0 ≤ c := by omega
      simp [e1, e2, h1, h2, h3, h4, ho, e6, e7]
    · obtain ⟨k, hk⟩ : ∃ k : Nat, Entry.Owner e = k + 1 := ⟨(Entry.Owner e - 1).toNat, by omega⟩
      have hw : w64 (Entry.Owner e - 1) = (k : Int) := by rw [w64_id (by omega) (by omega)]; omega
      have hl : k < (Entry.Share e).length := by omega
      have hz : (Entry.Owner e - 1).toNat = k := by omega
      have hc : (decide (c < 1) || (decide (4 < c) || (!decide (((Entry.Share e).length : Int) = c) || (decide (Entry.Owner e < 0) || decide (c < Entry.Owner e))))) = false := by
        simp [e1, e2, h3, e4, e5]
      have hh : decide (1 ≤ c ∧ c ≤ 4 ∧ ((Entry.Share e).length : Int) = c ∧ 0 ≤ Entry.Owner e ∧ Entry.Owner e ≤ c) = true := decide_eq_true ⟨h1, h2, h3, h4, h5⟩
      simp only [hc, hh, hz, hw, getO_nat, List.getElem?_eq_getElem hl, ho]
      cases (Entry.Share e)[k] <;> simp
  · have : (decide (c < 1) || (decide (4 < c) || (!decide (((Entry.Share e).length : Int) = c) || (decide (Entry.Owner e < 0) || decide (c < Entry.Owner e))))) = true := by
      simp
      omega
    simp [this, h]

theorem r09_May_eq (e : Entry) (c : Int) : r09_May e c = some (mayB e c) := by
  unfold r09_May mayB
  by_cases h : 1 ≤ c ∧ c ≤ 4 ∧ ((Entry.Share e).length : Int) = c ∧ 0 ≤ Entry.Owner e ∧ Entry.Owner e ≤ c
  · obtain ⟨h1, h2, h3, h4, h5⟩ := h
    have e1 : ¬ c < 1 := by omega
    have e2 : ¬ 4 < c := by omega
    have e4 : ¬ Entry.Owner e < 0 := by omega
    have e5 : ¬ c < Entry.Owner e := by omega
    have step : ∀ i : Nat, i < (Entry.Share e).length → r09_May_L1 e c i = some (if ((Entry.Share e)[i]? = some true ∧ Entry.Owner e = i + 1) then .inr (.inr false) else .inl ((i : Int) + 1)) := fun i hi => by
      have hw : w64 ((i : Int) + 1) = i + 1 := w64_id (by omega) (by omega)
      have hlt : (i : Int) < c := by omega
      unfold r09_May_L1
      rw [getO_nat, List.getElem?_eq_getElem hi]
      cases hb : (Entry.Share e)[i] <;> simp [hlt, hw, hb]
      split <;> simp_all
    have last : r09_May_L1 e c ((Entry.Share e).length : Int) = some (.inr (.inl ())) := by
      unfold r09_May_L1
      simp [h3]
    have c0 : (decide (c < 1) || (decide (4 < c) || (!decide (((Entry.Share e).length : Int) = c) || (decide (Entry.Owner e < 0) || decide (c < Entry.Owner e))))) = false := by
      simp [e1, e2, h3, e4, e5]
    simp only [c0, Bool.false_eq_true, if_false]
    by_cases hb : ∃ i, i < (Entry.Share e).length ∧ (Entry.Share e)[i]? = some true ∧ Entry.Owner e = i + 1
    · obtain ⟨i, hi, hb1, hb2⟩ := hb
      have hl : loopD (r09_May_L1 e c) 0 = some (.inr false) := by
        have := loop_to (f := r09_May_L1 e c) (fun i => (i : Int)) (n := 0) (m := i) (by omega) fun j _ hj => by
          rw [step j (by omega), if_neg (by rintro ⟨_, h⟩; omega)]
          simp
        refine this.trans ?_
        refine loop_out ?_
        rw [step i hi, if_pos ⟨hb1, hb2⟩]
      rw [hl]
      have hz : (Entry.Owner e - 1).toNat = i := by omega
      have ho : Entry.Owner e ≠ 0 := by omega
      simp [h1, h2, h3, h4, hz, hb1, ho]
    · have hl : loopD (r09_May_L1 e c) 0 = some (.inl ()) := by
        have := loop_to (f := r09_May_L1 e c) (fun i => (i : Int)) (n := 0) (m := (Entry.Share e).length) (by omega) fun j _ hj => by
          rw [step j (by omega), if_neg (fun h => hb ⟨j, hj, h⟩)]
          simp
        exact this.trans (loop_out last)
      rw [hl]
      by_cases ho : Entry.Owner e = 0
      · have e7 : 0 ≤ c := by omega
        simp [h1, h2, h3, h4, ho, e7]
      · have hb' : ¬ (Entry.Share e)[(Entry.Owner e - 1).toNat]? = some true := fun h => hb ⟨(Entry.Owner e - 1).toNat, by omega, h, by omega⟩
        have hh : decide (1 ≤ c ∧ c ≤ 4 ∧ ((Entry.Share e).length : Int) = c ∧ 0 ≤ Entry.Owner e ∧ Entry.Owner e ≤ c) = true := decide_eq_true ⟨h1, h2, h3, h4, h5⟩
        have h2' : decide ((Entry.Share e)[(Entry.Owner e - 1).toNat]? ≠ some true) = true := decide_eq_true hb'
        rw [hh, h2']
        simp
  · have : (decide (c < 1) || (decide (4 < c) || (!decide (((Entry.Share e).length : Int) = c) || (decide (Entry.Owner e < 0) || decide (c < Entry.Owner e))))) = true := by
      simp
      omega
    simp [this, h]


def hasB (e : Entry) (n : Int) : Bool := mayB e ((Entry.Share e).length : Int) && (decide (0 ≤ n) && decide (n < ((Entry.Share e).length : Int)))
theorem direc_has_eq (e : Entry) (n : Int) : direc_has e n = some (hasB e n) := by
  unfold direc_has hasB
  rw [direc_May_eq]
  cases mayB e ((Entry.Share e).length : Int) <;> by_cases h : 0 ≤ n <;> simp [h]
theorem r09_has_eq (e : Entry) (n : Int) : r09_has e n = some (hasB e n) := by
  unfold r09_has hasB
  rw [r09_May_eq]
  cases mayB e ((Entry.Share e).length : Int) <;> by_cases h : 0 ≤ n <;> simp [h]
theorem hasB_iff {e : Entry} {n : Int} (h : hasB e n = true) : (Entry.Share e).length ≤ 4 ∧ 0 ≤ n ∧ n < ((Entry.Share e).length : Int) ∧ 0 ≤ Entry.Owner e ∧ Entry.Owner e ≤ 4 := by
  simp [hasB, mayB] at h
  omega

theorem New_eq : direc_New = r09_New := rfl

/-- Who shares, but n. -/
def othersN (l : List Bool) (n : Int) : Nat → List Int
  | 0 => []
  | k + 1 => if l[k]? = some true ∧ (k : Int) ≠ n then othersN l n k ++ [(k : Int)] else othersN l n k
theorem othersN_len (l : List Bool) (n : Int) : ∀ k, (othersN l n k).length ≤ k
  | 0 => Nat.le_refl _
  | k + 1 => by
    have := othersN_len l n k
    simp only [othersN]
    split
    · simp; omega
    · omega
theorem app8 {l : List Int} {x : Int} (h : l.length ≤ 1000) : appO 8 l [x] = some (l ++ [x]) := appO_ok (roomOk_of (by simp; omega) (by simp; omega))

theorem others_loop (l : List Bool) (n : Int) (hl : l.length ≤ 1000) : loopD (direc_Read_L1 n l (l.length : Int)) ((0 : Int), ([] : List Int)) = some (othersN l n l.length) := by
  have := loop_to (f := direc_Read_L1 n l (l.length : Int)) (fun i => ((i : Int), othersN l n i)) (n := 0) (m := l.length) (by omega) fun i _ hi => by
    have hlt : (i : Int) < l.length := by omega
    have hw : w64 ((i : Int) + 1) = i + 1 := w64_id (by omega) (by omega)
    have hx : idxO (l.length : Int) (i : Int) = some (i : Int) := idxO_lt (by omega) hlt
    have ho := othersN_len l n i
    unfold direc_Read_L1
    simp only [hlt, hx, decide_true, if_true, Option.bind_some, getO_nat, List.getElem?_eq_getElem hi, hw, othersN]
    rw [app8 (by omega)]
    cases l[i] <;> by_cases hn : (i : Int) = n <;> simp [hn]
  refine this.trans (loop_out ?_)
  unfold direc_Read_L1
  simp
theorem r09_Others_eq (e : Entry) (n : Int) (hl : (Entry.Share e).length ≤ 1000) : r09_Others e n = some (othersN (Entry.Share e) n (Entry.Share e).length) := by
  have := loop_to (f := r09_Others_L1 e n) (fun i => ((i : Int), othersN (Entry.Share e) n i)) (n := 0) (m := (Entry.Share e).length) (by omega) fun i _ hi => by
    have hlt : (i : Int) < (Entry.Share e).length := by omega
    have hw : w64 ((i : Int) + 1) = i + 1 := w64_id (by omega) (by omega)
    have ho := othersN_len (Entry.Share e) n i
    unfold r09_Others_L1
    simp only [hlt, decide_true, if_true, getO_nat, List.getElem?_eq_getElem hi, Option.bind_some, hw, othersN]
    rw [app8 (by omega)]
    cases (Entry.Share e)[i] <;> by_cases hn : (i : Int) = n <;> simp [hn]
  have last : r09_Others_L1 e n (((Entry.Share e).length : Int), othersN (Entry.Share e) n (Entry.Share e).length) = some (.inr (othersN (Entry.Share e) n (Entry.Share e).length)) := by
    unfold r09_Others_L1
    simp
  unfold r09_Others
  rw [show loopD (r09_Others_L1 e n) ((0 : Int), ([] : List Int)) = some (othersN (Entry.Share e) n (Entry.Share e).length) from this.trans (loop_out last)]
  rfl

theorem othersN_nil {l : List Bool} {n : Int} : ∀ {k : Nat}, othersN l n k = [] → ∀ i, i < k → (i : Int) ≠ n → l[i]? ≠ some true
  | 0, _, i, hi, _ => by omega
  | k + 1, h, i, hi, hn => by
    simp only [othersN] at h
    split at h
    · simp at h
    · rename_i hc
      by_cases e : i = k
      · subst e; exact fun h' => hc ⟨h', hn⟩
      · exact othersN_nil h i (by omega) hn

theorem clone1 {l : List Bool} (h : l.length ≤ 1000) : cloneO 1 l = some l := cloneO_ok (roomOk_of (by omega) (by omega))
theorem app1 {l : List Bool} (h : l.length ≤ 1000) : appO 1 ([] : List Bool) l = some l := by
  rw [appO_ok (roomOk_of (by simp; omega) (by simp; omega))]
  rfl
theorem rep1 {n : Nat} (h : n ≤ 1000) : repO false 1 (n : Int) (n : Int) = some (List.replicate n false) := by
  rw [repO_ok (by omega) (by omega) (roomOk_of (by omega) (by omega))]
  rfl

/-- What Read tells. -/
def readS (e : Entry) (n : Int) : Entry × Int × Int :=
  if hasB e n = true then
    if Entry.Owner e = 0 ∧ othersN (Entry.Share e) n (Entry.Share e).length = [] then (Entry.mk (n + 1) (List.replicate (Entry.Share e).length false), 0, 0)
    else if Entry.Owner e = n + 1 then (e, n + 1, 0)
    else (Entry.mk (Entry.Owner e) ((Entry.Share e).set n.toNat true), Entry.Owner e, 0)
  else (e, 0, 1)

theorem set_false {l : List Bool} {n : Int} (h0 : 0 ≤ n) (hn : n < (l.length : Int)) (h : othersN l n l.length = []) : l.set n.toNat false = List.replicate l.length false := by
  apply List.ext_getElem
  · simp
  · intro i h1 h2
    simp only [List.length_set] at h1
    rw [List.getElem_set, List.getElem_replicate]
    split
    · rfl
    · have := othersN_nil h i h1 (by omega)
      rw [List.getElem?_eq_getElem h1] at this
      cases hb : l[i] with
      | false => rfl
      | true => rw [hb] at this; exact absurd rfl this

theorem direc_Read_eq (e : Entry) (n : Int) (hl : (Entry.Share e).length ≤ 1000) : direc_Read e n = some (readS e n) := by
  unfold direc_Read readS
  rw [clone1 hl]
  simp only [Option.bind_some, Entry.eta, direc_has_eq]
  cases hh : hasB e n with
  | false => simp
  | true =>
    obtain ⟨h1, h2, h3, h4, h5⟩ := hasB_iff hh
    have hw : w64 (n + 1) = n + 1 := w64_id (by omega) (by omega)
    have hx : idxO ((Entry.Share e).length : Int) n = some n := idxO_lt h2 h3
    have hs := fun b : Bool => setO_lt (v := b) h2 h3
    simp only [Bool.not_true, Bool.false_eq_true, if_false, if_true, others_loop _ _ hl, Option.bind_some, hw, hx, hs]
    by_cases ho : Entry.Owner e = 0
    · by_cases hn : othersN (Entry.Share e) n (Entry.Share e).length = []
      · simp [ho, hn, set_false h2 h3 hn]
      · have : ¬ ((othersN (Entry.Share e) n (Entry.Share e).length).length : Int) = 0 := fun h => hn (List.eq_nil_of_length_eq_zero (by omega))
        have h6 : ¬ (0 : Int) = n + 1 := by omega
        simp [ho, hn, this, h6]
    · by_cases h6 : Entry.Owner e = n + 1
      · have h7 : ¬ n + 1 = 0 := by omega
        simp [ho, h6, h7]
        rw [← h6]
        rfl
      · simp [ho, h6]

theorem r09_Read_eq (e : Entry) (n : Int) (hl : (Entry.Share e).length ≤ 1000) : r09_Read e n = some (readS e n) := by
  unfold r09_Read readS
  rw [r09_has_eq]
  simp only [Option.bind_some]
  cases hh : hasB e n with
  | false => simp
  | true =>
    obtain ⟨h1, h2, h3, h4, h5⟩ := hasB_iff hh
    have hw : w64 (n + 1) = n + 1 := w64_id (by omega) (by omega)
    have hx : idxO ((Entry.Share e).length : Int) n = some n := idxO_lt h2 h3
    have hs := fun b : Bool => setO_lt (v := b) h2 h3
    have hset : r09_set (Entry.Share e) n true = some ((Entry.Share e).set n.toNat true) := by
      unfold r09_set
      simp [app1 hl, hx, hs]
    simp only [Bool.not_true, Bool.false_eq_true, if_false, if_true, r09_Others_eq _ _ hl, Option.bind_some, hw, rep1 hl, hset]
    by_cases ho : Entry.Owner e = 0
    · by_cases hn : othersN (Entry.Share e) n (Entry.Share e).length = []
      · simp [ho, hn]
      · have : ¬ ((othersN (Entry.Share e) n (Entry.Share e).length).length : Int) = 0 := fun h => hn (List.eq_nil_of_length_eq_zero (by omega))
        have h6 : ¬ (0 : Int) = n + 1 := by omega
        simp [ho, hn, this, h6]
    · by_cases h6 : Entry.Owner e = n + 1
      · have h7 : ¬ n + 1 = 0 := by omega
        simp [ho, h6, h7]
      · simp [ho, h6]

end Go.Proofs.Ytklkpogdghiagaa
