/- Layer 7: which banks are right, by the program and by the reference. -/
import Derived.Test.YtflnpiknckdmfaaP07
import Derived.Test.YtflnpiknckdmfaaD071
set_option linter.unusedSimpArgs false
set_option linter.unusedVariables false
namespace Go.Proofs.Ytflnpiknckdmfaa
open Go.SX

structure BOk (b : Banks) : Prop where
  rl : (Banks.Rows b).length ≤ 10
  pl : (Banks.Par b).length ≤ 80
  el : ∀ r ∈ Banks.Rows b, r.length ≤ 80
  rw : rowsWd (Banks.Rows b)
  pw : ∀ x ∈ Banks.Par b, wd x
def shortB (b : Banks) : Bool := decide ((Banks.Rows b).length ≤ 10 ∧ (Banks.Par b).length ≤ 80) && (Banks.Rows b).all fun r => decide (r.length ≤ 80)
theorem r07_Short_eq (b : Banks) : r07_Short b = some (shortB b) := by
  unfold r07_Short shortB
  by_cases h : (Banks.Rows b).length ≤ 10 ∧ (Banks.Par b).length ≤ 80
  · have h' : ((decide ((10 : Int) < (List.length (Banks.Rows b) : Int))) || (decide ((80 : Int) < (List.length (Banks.Par b) : Int)))) = false := by
      rw [Bool.or_eq_false_iff]
      exact ⟨decide_eq_false (by omega), decide_eq_false (by omega)⟩
    have lp := check_all (f := r07_Short_L1 b) (n := (Banks.Rows b).length) (g := fun _ => some true) (fun i => (i : Int)) (fun i => optT (fun r => decide (r.length ≤ 80)) (Banks.Rows b)[i]?) (fun i hi _ => by
      have hlt : (i : Int) < (List.length (Banks.Rows b) : Int) := by omega
      rw [optT_in hi]
      unfold r07_Short_L1
      simp only [hlt, decide_true, if_true, getO_in hi, Option.bind_some, w64_succ (show i < 4611686018427387904 by omega)]
      by_cases h : (Banks.Rows b)[i].length ≤ 80
      · have h' : ¬ (80 : Int) < ((Banks.Rows b)[i].length : Int) := by omega
        simp only [h, h', decide_true, decide_false, Bool.false_eq_true, if_false, if_true]
      · have h' : (80 : Int) < ((Banks.Rows b)[i].length : Int) := by omega
        simp only [h, h', decide_true, decide_false, Bool.false_eq_true, if_false, if_true]) (fun _ => by
      unfold r07_Short_L1
      simp only [show ¬ (List.length (Banks.Rows b) : Int) < (List.length (Banks.Rows b) : Int) by omega, decide_false, Bool.false_eq_true, if_false])
    rw [show (((0 : Nat) : Int)) = 0 from rfl] at lp
    rw [h', if_neg (by simp), lp, decide_eq_true h, ← all_range, Bool.true_and]
    cases (Banks.Rows b).all fun r => decide (r.length ≤ 80) <;> rfl
  · have h' : ((decide ((10 : Int) < (List.length (Banks.Rows b) : Int))) || (decide ((80 : Int) < (List.length (Banks.Par b) : Int)))) = true := by
      rw [Bool.or_eq_true, decide_eq_true_eq, decide_eq_true_eq]
      omega
    rw [h', if_pos rfl, decide_eq_false h]
    rfl
theorem short_ok {b : Banks} (h : shortB b = true) (h1 : rowsWd (Banks.Rows b)) (h2 : ∀ x ∈ Banks.Par b, wd x) : BOk b := by
  unfold shortB at h
  rw [Bool.and_eq_true, decide_eq_true_eq, List.all_eq_true] at h
  exact ⟨h.1.1, h.1.2, fun r hr => of_decide_eq_true (h.2 r hr), h1, h2⟩

def sizeP (b : Banks) : Prop := 1 ≤ (Banks.Rows b).length ∧ (Banks.Rows b).length ≤ 8 ∧ 1 ≤ (Banks.Par b).length ∧ (Banks.Par b).length ≤ 64 ∧ 0 ≤ Banks.Lost b ∧ Banks.Lost b ≤ ((Banks.Rows b).length : Int)
instance (b : Banks) : Decidable (sizeP b) := by unfold sizeP; exact inferInstance
def formedB (b : Banks) : Bool := decide (sizeP b) && (Banks.Rows b).all fun r => decide (r.length = (Banks.Par b).length)
noncomputable def rightB (b : Banks) : Bool :=
  formedB b && (if Banks.Lost b = 0 then (List.range (Banks.Par b).length).all fun a => decide (colTo (Banks.Rows b) a (-1) (Banks.Rows b).length = wordAt (Banks.Par b) a) else (rowAt (Banks.Rows b) (Banks.Lost b - 1).toNat).all fun x => decide (x = 0))
theorem formed_facts {b : Banks} (h : formedB b = true) : sizeP b ∧ ∀ r ∈ Banks.Rows b, r.length = (Banks.Par b).length := by
  unfold formedB at h
  rw [Bool.and_eq_true, decide_eq_true_eq, List.all_eq_true] at h
  exact ⟨h.1, fun r hr => of_decide_eq_true (h.2 r hr)⟩

theorem parity_formed_eq (b : Banks) : parity_formed b = some (formedB b) := by
  unfold parity_formed formedB
  dsimp only
  by_cases h : sizeP b
  · obtain ⟨h1, h2, h3, h4, h5, h6⟩ := id h
    have hc : ((decide ((List.length (Banks.Rows b) : Int) < (1 : Int))) || ((decide ((8 : Int) < (List.length (Banks.Rows b) : Int))) || ((decide ((List.length (Banks.Par b) : Int) < (1 : Int))) || ((decide ((64 : Int) < (List.length (Banks.Par b) : Int))) || ((decide ((Banks.Lost b) < (0 : Int))) || (decide ((List.length (Banks.Rows b) : Int) < (Banks.Lost b)))))))) = false := by
      simp only [Bool.or_eq_false_iff, decide_eq_false_iff_not]
      omega
    have lp := loop_first (f := parity_formed_L1 (List.length (Banks.Par b) : Int) (Banks.Rows b) (List.length (Banks.Rows b) : Int)) (n := (Banks.Rows b).length) (fun i => (i : Int)) (fun i => optT (fun r => decide (r.length = (Banks.Par b).length)) (Banks.Rows b)[i]?) (e := (Sum.inl () : Unit ⊕ Int)) (r := fun i => .inr (i : Int)) (fun i hi _ => by
      have hlt : (i : Int) < (List.length (Banks.Rows b) : Int) := by omega
      rw [optT_in hi]
      unfold parity_formed_L1
      simp only [hlt, decide_true, if_true, getO_in hi, Option.bind_some, w64_succ (show i < 4611686018427387904 by omega)]
      by_cases hq : (Banks.Rows b)[i].length = (Banks.Par b).length
      · have hq' : ((Banks.Rows b)[i].length : Int) = ((Banks.Par b).length : Int) := by omega
        simp only [hq, decide_true, Bool.not_true, Bool.false_eq_true, if_false, if_true]
      · have hq' : ¬ ((Banks.Rows b)[i].length : Int) = ((Banks.Par b).length : Int) := by omega
        simp only [hq, hq', decide_false, Bool.not_false, if_true, Bool.false_eq_true, if_false]) (fun _ => by
      unfold parity_formed_L1
      simp only [show ¬ (List.length (Banks.Rows b) : Int) < (List.length (Banks.Rows b) : Int) by omega, decide_false, Bool.false_eq_true, if_false])
    rw [show (((0 : Nat) : Int)) = 0 from rfl] at lp
    have f2 := firstI_all (ok := fun i => optT (fun r => decide (r.length = (Banks.Par b).length)) (Banks.Rows b)[i]?) (n := (Banks.Rows b).length)
    rw [← range_all, ← all_range] at f2
    have f1 := (firstI_facts (fun i => optT (fun r => decide (r.length = (Banks.Par b).length)) (Banks.Rows b)[i]?) (Banks.Rows b).length).1
    rw [hc, if_neg (by simp)]
    simp only [lp]
    rw [decide_eq_true h, Bool.true_and]
    by_cases ha : (Banks.Rows b).all (fun r => decide (r.length = (Banks.Par b).length)) = true
    · have := f2.2 ha
      rw [if_neg (by omega), ha]
      rfl
    · have : firstI (fun i => optT (fun r => decide (r.length = (Banks.Par b).length)) (Banks.Rows b)[i]?) (Banks.Rows b).length < (Banks.Rows b).length := by
        rcases Nat.lt_or_ge (firstI (fun i => optT (fun r => decide (r.length = (Banks.Par b).length)) (Banks.Rows b)[i]?) (Banks.Rows b).length) (Banks.Rows b).length with q | q
        · exact q
        · exact absurd (f2.1 (by omega)) ha
      rw [if_pos this, Bool.eq_false_iff.2 ha]
      have h0 : (0 : Int) ≤ ((firstI (fun i => optT (fun r => decide (r.length = (Banks.Par b).length)) (Banks.Rows b)[i]?) (Banks.Rows b).length : Nat) : Int) := by omega
      simp only [orExit_inr, Option.bind_some, h0, decide_true, Bool.not_true]
  · have hc : ((decide ((List.length (Banks.Rows b) : Int) < (1 : Int))) || ((decide ((8 : Int) < (List.length (Banks.Rows b) : Int))) || ((decide ((List.length (Banks.Par b) : Int) < (1 : Int))) || ((decide ((64 : Int) < (List.length (Banks.Par b) : Int))) || ((decide ((Banks.Lost b) < (0 : Int))) || (decide ((List.length (Banks.Rows b) : Int) < (Banks.Lost b)))))))) = true := by
      unfold sizeP at h
      simp only [Bool.or_eq_true, decide_eq_true_eq]
      omega
    rw [hc, if_pos rfl, decide_eq_false h]
    rfl

/-! ### Rows put together -/
theorem map_set {n i : Nat} (hi : i < n) (G : Nat → Int) (v : Int) : ((List.range n).map G).set i v = (List.range n).map fun a => if a = i then v else G a := by
  apply List.ext_getElem?
  intro j
  rw [List.getElem?_set]
  simp only [List.length_map, List.length_range]
  by_cases hj : i = j
  · subst hj
    rw [if_pos rfl, if_pos hi, List.getElem?_map, List.getElem?_range hi]
    simp
  · rw [if_neg hj, List.getElem?_map, List.getElem?_map]
    by_cases hjn : j < n
    · rw [List.getElem?_range hjn]
      simp [Ne.symm hj]
    · rw [List.getElem?_eq_none (by simpa using hjn)]
      rfl
theorem tog_inner {words : Nat} (hw : words ≤ 1000) (row : List Int) (hr : row.length = words) (F : Nat → Int) :
    loopD (parity_Right_L2 row (List.length row : Int)) ((0 : Int), (List.range words).map F) = some ((List.range words).map fun a => xo (F a) (wordAt row a)) := by
  have lp := loop_good (f := parity_Right_L2 row (List.length row : Int)) (n := words) (e := ((List.range words).map fun a => xo (F a) (wordAt row a))) (fun i => ((i : Int), (List.range words).map fun a => if a < i then xo (F a) (wordAt row a) else F a)) (fun i hi => by
    have hlt : (i : Int) < (List.length row : Int) := by omega
    have hl : ((List.range words).map fun a => if a < i then xo (F a) (wordAt row a) else F a).length = words := by simp
    have hi' : i < row.length := by omega
    have hg : getO ((List.range words).map fun a => if a < i then xo (F a) (wordAt row a) else F a) (i : Int) = some (F i) := by
      rw [getO_in (by rw [hl]; exact hi)]
      simp
    have hs : setO ((List.range words).map fun a => if a < i then xo (F a) (wordAt row a) else F a) (i : Int) (bXor .u32 (F i) row[i]) = some ((List.range words).map fun a => if a < i + 1 then xo (F a) (wordAt row a) else F a) := by
      rw [setO_in (by rw [hl]; exact hi), map_set hi]
      congr 1
      apply List.map_congr_left
      intro a _
      by_cases ha : a = i
      · subst ha
        rw [if_pos rfl, if_pos (by omega), wordAt_in hi']
        rfl
      · by_cases hb : a < i
        · rw [if_neg ha, if_pos hb, if_pos (by omega)]
        · rw [if_neg ha, if_neg hb, if_neg (by omega)]
    unfold parity_Right_L2
    simp only [hlt, decide_true, if_true, getO_in hi', Option.bind_some, hl, idxO_in hi, hg, hs, w64_succ (show i < 4611686018427387904 by omega)]) (by
    unfold parity_Right_L2
    have : ¬ (words : Int) < (List.length row : Int) := by omega
    simp only [this, decide_false, Bool.false_eq_true, if_false]
    congr 2
    apply List.map_congr_left
    intro a ha
    rw [if_pos (List.mem_range.1 ha)])
  simpa using lp
theorem tog_loop {rows : List (List Int)} {words : Nat} (hn : rows.length ≤ 1000) (hw : words ≤ 1000) (hr : ∀ r ∈ rows, r.length = words) :
    loopD (parity_Right_L3 rows (List.length rows : Int)) ((0 : Int), List.replicate words (0 : Int)) = some (tog rows words) := by
  have e0 : List.replicate words (0 : Int) = (List.range words).map fun a => colTo rows a (-1) 0 := by
    apply List.ext_getElem?
    intro j
    rw [List.getElem?_replicate, List.getElem?_map]
    by_cases hj : j < words
    · rw [if_pos hj, List.getElem?_range hj]; rfl
    · rw [if_neg hj, List.getElem?_eq_none (by simpa using hj)]; rfl
  rw [e0]
  exact loop_good (f := parity_Right_L3 rows (List.length rows : Int)) (n := rows.length) (e := tog rows words) (fun i => ((i : Int), (List.range words).map fun a => colTo rows a (-1) i)) (fun i hi => by
    have hlt : (i : Int) < (List.length rows : Int) := by omega
    have hl := hr rows[i] (List.getElem_mem hi)
    unfold parity_Right_L3
    simp only [hlt, decide_true, if_true, getO_in hi, Option.bind_some, tog_inner hw rows[i] hl, w64_succ (show i < 4611686018427387904 by omega)]
    congr 3
    apply List.map_congr_left
    intro a _
    have c1 : ¬ ((i : Int) = -1) := by omega
    rw [colTo, if_neg c1]
    unfold cell
    rw [rowAt_in hi]) (by
    unfold parity_Right_L3
    simp only [show ¬ (List.length rows : Int) < (List.length rows : Int) by omega, decide_false, Bool.false_eq_true, if_false]
    rfl)
theorem tog_length (rows : List (List Int)) (words : Nat) : (tog rows words).length = words := by simp [tog]
theorem slices_Equal_eq {x y : List Int} (hl : x.length = y.length) (hx : x.length ≤ 1000) : slices_Equal_uint32_uint32 x y = some ((List.range x.length).all fun i => decide (wordAt x i = wordAt y i)) := by
  unfold slices_Equal_uint32_uint32
  have hl' : (List.length x : Int) = (List.length y : Int) := by omega
  have lp := check_all (f := slices_Equal_uint32_uint32_L1 x y (List.length x : Int)) (n := x.length) (g := fun _ => some true) (fun i => (i : Int)) (fun i => decide (wordAt x i = wordAt y i)) (fun i hi _ => by
    have hlt : (i : Int) < (List.length x : Int) := by omega
    have hy : i < y.length := by omega
    unfold slices_Equal_uint32_uint32_L1
    simp only [hlt, decide_true, if_true, getO_in hi, getO_in hy, Option.bind_some, wordAt_in hi, wordAt_in hy, w64_succ (show i < 4611686018427387904 by omega)]
    cases decide (x[i] = y[i]) <;> rfl) (fun _ => by
    unfold slices_Equal_uint32_uint32_L1
    simp only [show ¬ (List.length x : Int) < (List.length x : Int) by omega, decide_false, Bool.false_eq_true, if_false])
  rw [show (((0 : Nat) : Int)) = 0 from rfl] at lp
  simp only [hl', decide_true, Bool.not_true, Bool.false_eq_true, if_false]
  rw [← hl', lp]
  cases (List.range x.length).all fun i => decide (wordAt x i = wordAt y i) <;> rfl
theorem wordAt_tog {rows : List (List Int)} {words a : Nat} (h : a < words) : wordAt (tog rows words) a = colTo rows a (-1) rows.length := by
  rw [wordAt_in (by rw [tog_length]; exact h)]
  simp [tog]

theorem w64_pred {x : Int} (h0 : 0 ≤ x) (h1 : x ≤ 1000) : w64 (x - 1) = x - 1 := w64_id (by omega) (by omega)
theorem parity_Right_eq {b : Banks} (hb : BOk b) : parity_Right b = some (rightB b) := by
  unfold parity_Right rightB
  rw [parity_formed_eq]
  cases hf : formedB b
  · rfl
  obtain ⟨⟨h1, h2, h3, h4, h5, h6⟩, h7⟩ := formed_facts hf
  simp only [Option.bind_some, Bool.not_true, Bool.false_eq_true, if_false, Bool.true_and]
  by_cases hl : (0 : Int) < Banks.Lost b
  · have hl' : ¬ Banks.Lost b = 0 := by omega
    obtain ⟨k, hk⟩ : ∃ k : Nat, Banks.Lost b - 1 = (k : Int) := ⟨(Banks.Lost b - 1).toNat, by omega⟩
    have hkn : k < (Banks.Rows b).length := by omega
    have hrow : (Banks.Rows b)[k].length ≤ 80 := hb.el _ (List.getElem_mem hkn)
    rw [decide_eq_true hl, if_pos rfl, if_neg hl', w64_pred h5 (by omega), hk, Int.toNat_natCast, rowAt_in hkn]
    simp only [getO_in hkn, Option.bind_some]
    have lp := loop_first (f := parity_Right_L1 (Banks.Rows b)[k] (List.length (Banks.Rows b)[k] : Int)) (n := (Banks.Rows b)[k].length) (fun i => (i : Int)) (fun i => optT (fun x => decide (x = 0)) (Banks.Rows b)[k][i]?) (e := (Sum.inl () : Unit ⊕ Int)) (r := fun i => .inr (i : Int)) (fun i hi _ => by
      have hlt : (i : Int) < (List.length (Banks.Rows b)[k] : Int) := by omega
      rw [optT_in hi]
      unfold parity_Right_L1 parity_Right_1
      simp only [hlt, decide_true, if_true, getO_in hi, Option.bind_some, w64_succ (show i < 4611686018427387904 by omega)]
      cases decide ((Banks.Rows b)[k][i] = 0) <;> rfl) (fun _ => by
      unfold parity_Right_L1
      simp only [show ¬ (List.length (Banks.Rows b)[k] : Int) < (List.length (Banks.Rows b)[k] : Int) by omega, decide_false, Bool.false_eq_true, if_false])
    rw [show (((0 : Nat) : Int)) = 0 from rfl] at lp
    have f2 := firstI_all (ok := fun i => optT (fun x => decide (x = 0)) (Banks.Rows b)[k][i]?) (n := (Banks.Rows b)[k].length)
    rw [← range_all, ← all_range] at f2
    have f1 := (firstI_facts (fun i => optT (fun x => decide (x = 0)) (Banks.Rows b)[k][i]?) (Banks.Rows b)[k].length).1
    simp only [lp]
    by_cases ha : (Banks.Rows b)[k].all (fun x => decide (x = 0)) = true
    · have := f2.2 ha
      rw [if_neg (by omega), ha]
      rfl
    · have : firstI (fun i => optT (fun x => decide (x = 0)) (Banks.Rows b)[k][i]?) (Banks.Rows b)[k].length < (Banks.Rows b)[k].length := by
        rcases Nat.lt_or_ge (firstI (fun i => optT (fun x => decide (x = 0)) (Banks.Rows b)[k][i]?) (Banks.Rows b)[k].length) (Banks.Rows b)[k].length with q | q
        · exact q
        · exact absurd (f2.1 (by omega)) ha
      rw [if_pos this, Bool.eq_false_iff.2 ha]
      have h0 : (0 : Int) ≤ ((firstI (fun i => optT (fun x => decide (x = 0)) (Banks.Rows b)[k][i]?) (Banks.Rows b)[k].length : Nat) : Int) := by omega
      simp only [orExit_inr, Option.bind_some, h0, decide_true, Bool.not_true]
  · have hl' : Banks.Lost b = 0 := by omega
    have r1 := repO_small (z := (0 : Int)) (b := 4) (n := (Banks.Par b).length) (by omega) (by omega)
    rw [decide_eq_false hl, if_neg (by simp), if_pos hl']
    simp only [r1, Option.bind_some, tog_loop (rows := Banks.Rows b) (words := (Banks.Par b).length) (by omega) (by omega) h7]
    rw [slices_Equal_eq (tog_length _ _) (by rw [tog_length]; omega), tog_length]
    simp only [Option.bind_some]
    congr 1
    rw [Bool.eq_iff_iff, range_all, range_all]
    constructor
    · intro h a ha
      have := h a ha
      rwa [wordAt_tog ha] at this
    · intro h a ha
      have := h a ha
      rwa [wordAt_tog ha]

/-! ### The reference -/
theorem r07_column_eq {rows : List (List Int)} {a : Nat} (hn : rows.length ≤ 1000) (ha : ∀ r ∈ rows, a < r.length) (but : Int) : r07_column rows (a : Int) but = some (colTo rows a but rows.length) := by
  unfold r07_column
  have lp := loop_good (f := r07_column_L1 rows (a : Int) but) (n := rows.length) (e := colTo rows a but rows.length) (fun i => (colTo rows a but i, (i : Int))) (fun i hi => by
    have hlt : (i : Int) < (List.length rows : Int) := by omega
    have hl := ha rows[i] (List.getElem_mem hi)
    unfold r07_column_L1
    simp only [hlt, decide_true, if_true]
    by_cases hb : (i : Int) = but
    · have e : colTo rows a but (i + 1) = colTo rows a but i := by rw [colTo, if_pos hb]
      simp only [hb, decide_true, Bool.not_true, Bool.false_eq_true, if_false, Option.bind_some, e]
      rw [← hb, w64_succ (show i < 4611686018427387904 by omega)]
    · have e : colTo rows a but (i + 1) = xo (colTo rows a but i) (cell rows i a) := by rw [colTo, if_neg hb]
      have hc : cell rows i a = rows[i][a] := by unfold cell; rw [rowAt_in hi, wordAt_in hl]
      simp only [hb, decide_false, Bool.not_false, if_true, getO_in hi, getO_in hl, Option.bind_some, e, hc, w64_succ (show i < 4611686018427387904 by omega)]
      rfl) (by
    unfold r07_column_L1
    simp only [show ¬ (List.length rows : Int) < (List.length rows : Int) by omega, decide_false, Bool.false_eq_true, if_false])
  have e0 : colTo rows a but 0 = 0 := rfl
  rw [e0, show (((0 : Nat) : Int)) = 0 from rfl] at lp
  rw [lp]
  rfl

theorem r07_Right_eq {b : Banks} (hb : BOk b) : r07_Right b = some (rightB b) := by
  unfold r07_Right rightB formedB
  by_cases h : sizeP b
  · obtain ⟨h1, h2, h3, h4, h5, h6⟩ := id h
    have hc : ((decide ((List.length (Banks.Rows b) : Int) = (0 : Int))) || ((decide ((8 : Int) < (List.length (Banks.Rows b) : Int))) || ((decide ((List.length (Banks.Par b) : Int) = (0 : Int))) || ((decide ((64 : Int) < (List.length (Banks.Par b) : Int))) || ((decide ((Banks.Lost b) < (0 : Int))) || (decide ((List.length (Banks.Rows b) : Int) < (Banks.Lost b)))))))) = false := by
      simp only [Bool.or_eq_false_iff, decide_eq_false_iff_not]
      omega
    have lp := check_all (f := r07_Right_L2 b) (n := (Banks.Rows b).length) (g := fun _ => orExit (loopD (r07_Right_L1 b) (0 : Int) : Option (Unit ⊕ Bool)) fun _ => some true) (fun i => (i : Int)) (fun i => optT (fun r => decide (r.length = (Banks.Par b).length)) (Banks.Rows b)[i]?) (fun i hi _ => by
      have hlt : (i : Int) < (List.length (Banks.Rows b) : Int) := by omega
      rw [optT_in hi]
      unfold r07_Right_L2
      simp only [hlt, decide_true, if_true, getO_in hi, Option.bind_some, w64_succ (show i < 4611686018427387904 by omega)]
      by_cases hq : (Banks.Rows b)[i].length = (Banks.Par b).length
      · simp only [hq, decide_true, Bool.not_true, Bool.false_eq_true, if_false, if_true]
      · have hq' : ¬ ((Banks.Rows b)[i].length : Int) = ((Banks.Par b).length : Int) := by omega
        simp only [hq, hq', decide_false, Bool.not_false, if_true, Bool.false_eq_true, if_false]) (fun _ => by
      unfold r07_Right_L2
      simp only [show ¬ (List.length (Banks.Rows b) : Int) < (List.length (Banks.Rows b) : Int) by omega, decide_false, Bool.false_eq_true, if_false])
    rw [show (((0 : Nat) : Int)) = 0 from rfl] at lp
    rw [hc, if_neg (by simp), lp, decide_eq_true h, Bool.true_and, ← all_range]
    by_cases ha : (Banks.Rows b).all (fun r => decide (r.length = (Banks.Par b).length)) = true
    · rw [if_pos ha, ha, Bool.true_and]
      rw [List.all_eq_true] at ha
      have hr : ∀ r ∈ Banks.Rows b, r.length = (Banks.Par b).length := fun r hr => of_decide_eq_true (ha r hr)
      by_cases hl : Banks.Lost b = 0
      · have hl' : ¬ (0 : Int) < Banks.Lost b := by omega
        have lq := check_all (f := r07_Right_L1 b) (n := (Banks.Par b).length) (g := fun _ => some true) (fun i => (i : Int)) (fun a => decide (colTo (Banks.Rows b) a (-1) (Banks.Rows b).length = wordAt (Banks.Par b) a)) (fun i hi _ => by
          have hlt : (i : Int) < (List.length (Banks.Par b) : Int) := by omega
          have hcol := r07_column_eq (rows := Banks.Rows b) (a := i) (by omega) (fun r hr' => by rw [hr r hr']; exact hi) (-1)
          unfold r07_Right_L1
          simp only [hlt, hl, decide_true, if_true, hcol, getO_in hi, Option.bind_some, wordAt_in hi, w64_succ (show i < 4611686018427387904 by omega)]
          by_cases hq : colTo (Banks.Rows b) i (-1) (Banks.Rows b).length = (Banks.Par b)[i]
          · simp only [hq, decide_true, Bool.not_true, Bool.false_eq_true, if_false, show ¬ (0 : Int) < 0 by omega, decide_false, Option.bind_some, if_true]
          · simp only [hq, decide_false, Bool.not_false, if_true, Option.bind_some, Bool.false_eq_true, if_false]) (fun _ => by
          unfold r07_Right_L1
          simp only [show ¬ (List.length (Banks.Par b) : Int) < (List.length (Banks.Par b) : Int) by omega, decide_false, Bool.false_eq_true, if_false])
        rw [show (((0 : Nat) : Int)) = 0 from rfl] at lq
        rw [lq, if_pos hl]
        cases (List.range (Banks.Par b).length).all fun a => decide (colTo (Banks.Rows b) a (-1) (Banks.Rows b).length = wordAt (Banks.Par b) a) <;> rfl
      · have hl' : (0 : Int) < Banks.Lost b := by omega
        obtain ⟨k, hk⟩ : ∃ k : Nat, Banks.Lost b - 1 = (k : Int) := ⟨(Banks.Lost b - 1).toNat, by omega⟩
        have hkn : k < (Banks.Rows b).length := by omega
        have hrow : (Banks.Rows b)[k].length = (Banks.Par b).length := hr _ (List.getElem_mem hkn)
        have lq := check_all (f := r07_Right_L1 b) (n := (Banks.Rows b)[k].length) (g := fun _ => some true) (fun i => (i : Int)) (fun i => optT (fun x => decide (x = 0)) (Banks.Rows b)[k][i]?) (fun i hi _ => by
          have hlt : (i : Int) < (List.length (Banks.Par b) : Int) := by omega
          rw [optT_in hi]
          unfold r07_Right_L1
          simp only [hlt, hl, hl', decide_true, decide_false, Bool.false_eq_true, if_false, if_true, (show w64 (Banks.Lost b - 1) = (k : Int) from (w64_pred h5 (show Banks.Lost b ≤ 1000 by omega)).trans hk), getO_in hkn, getO_in hi, Option.bind_some, w64_succ (show i < 4611686018427387904 by omega)]
          cases decide ((Banks.Rows b)[k][i] = 0) <;> rfl) (fun _ => by
          unfold r07_Right_L1
          simp only [show ¬ ((Banks.Rows b)[k].length : Int) < (List.length (Banks.Par b) : Int) by omega, decide_false, Bool.false_eq_true, if_false])
        rw [show (((0 : Nat) : Int)) = 0 from rfl] at lq
        rw [lq, if_neg hl, hk, Int.toNat_natCast, rowAt_in hkn, ← all_range]
        cases (Banks.Rows b)[k].all fun x => decide (x = 0) <;> rfl
    · rw [if_neg ha, Bool.eq_false_iff.2 ha]
      rfl
  · have hc : ((decide ((List.length (Banks.Rows b) : Int) = (0 : Int))) || ((decide ((8 : Int) < (List.length (Banks.Rows b) : Int))) || ((decide ((List.length (Banks.Par b) : Int) = (0 : Int))) || ((decide ((64 : Int) < (List.length (Banks.Par b) : Int))) || ((decide ((Banks.Lost b) < (0 : Int))) || (decide ((List.length (Banks.Rows b) : Int) < (Banks.Lost b)))))))) = true := by
      unfold sizeP at h
      simp only [Bool.or_eq_true, decide_eq_true_eq]
      omega
    rw [hc, if_pos rfl, decide_eq_false h]
    rfl

end Go.Proofs.Ytflnpiknckdmfaa
