/- Layer 7: what is read, written, lost and rebuilt, by the program and by the reference. -/
import Derived.Test.YtflnpiknckdmfaaP07b
set_option linter.unusedSimpArgs false
set_option linter.unusedVariables false
namespace Go.Proofs.Ytflnpiknckdmfaa
open Go.SX

noncomputable def hasB (b : Banks) (k : Int) : Bool := rightB b && (decide (0 ≤ k) && decide (k < ((Banks.Rows b).length : Int)))
theorem has_block (r : Bool) (k n : Int) : ((
    (some r : Option Bool).bind fun v2 =>
    if v2 then
      if decide ((0 : Int) ≤ k) then
        some ((decide (k < n)))
      else
        some (false)
    else
      some (false) : Option Bool).bind fun v2 =>
  some (v2)) = some (r && (decide (0 ≤ k) && decide (k < n))) := by
  cases r
  · rfl
  · by_cases h : 0 ≤ k
    · simp [h]
    · simp [h]
theorem parity_has_eq {b : Banks} (hb : BOk b) (k : Int) : parity_has b k = some (hasB b k) := by
  unfold parity_has hasB
  rw [parity_Right_eq hb]
  exact has_block _ _ _
theorem r07_has_eq {b : Banks} (hb : BOk b) (k : Int) : r07_has b k = some (hasB b k) := by
  unfold r07_has hasB
  rw [r07_Right_eq hb]
  exact has_block _ _ _
noncomputable def wordB (b : Banks) (k a : Int) : Bool := hasB b k && (decide (0 ≤ a) && decide (a < ((Banks.Par b).length : Int)))
theorem word_block (r : Bool) (a n : Int) : (
    (some r : Option Bool).bind fun v3 =>
    if !v3 then
      some (true)
    else
      if decide (a < (0 : Int)) then
        some (true)
      else
        some ((decide (n ≤ a))) : Option Bool) = some (!(r && (decide (0 ≤ a) && decide (a < n)))) := by
  cases r
  · rfl
  · by_cases h : a < 0
    · have h' : ¬ 0 ≤ a := by omega
      simp [h, h']
    · have h' : 0 ≤ a := by omega
      by_cases h2 : n ≤ a
      · have h2' : ¬ a < n := by omega
        simp [h, h', h2, h2']
      · have h2' : a < n := by omega
        simp [h, h', h2, h2']
theorem has_facts {b : Banks} {k : Int} (h : hasB b k = true) : rightB b = true ∧ 0 ≤ k ∧ k < ((Banks.Rows b).length : Int) := by
  unfold hasB at h
  simp only [Bool.and_eq_true, decide_eq_true_eq] at h
  exact h
theorem word_facts {b : Banks} {k a : Int} (h : wordB b k a = true) : rightB b = true ∧ (0 ≤ k ∧ k < ((Banks.Rows b).length : Int)) ∧ 0 ≤ a ∧ a < ((Banks.Par b).length : Int) := by
  unfold wordB at h
  simp only [Bool.and_eq_true, decide_eq_true_eq] at h
  obtain ⟨h1, h2, h3⟩ := has_facts h.1
  exact ⟨h1, ⟨h2, h3⟩, h.2⟩
theorem right_formed {b : Banks} (h : rightB b = true) : sizeP b ∧ ∀ r ∈ Banks.Rows b, r.length = (Banks.Par b).length := by
  unfold rightB at h
  rw [Bool.and_eq_true] at h
  exact formed_facts h.1
theorem right_par {b : Banks} (h : rightB b = true) (hl : Banks.Lost b = 0) {a : Nat} (ha : a < (Banks.Par b).length) : colTo (Banks.Rows b) a (-1) (Banks.Rows b).length = wordAt (Banks.Par b) a := by
  unfold rightB at h
  rw [Bool.and_eq_true, if_pos hl, range_all] at h
  exact of_decide_eq_true (h.2 a ha)
theorem right_zero {b : Banks} (h : rightB b = true) (hl : ¬ Banks.Lost b = 0) (a : Nat) : wordAt (rowAt (Banks.Rows b) (Banks.Lost b - 1).toNat) a = 0 := by
  unfold rightB at h
  rw [Bool.and_eq_true, if_neg hl, List.all_eq_true] at h
  unfold wordAt
  cases e : (rowAt (Banks.Rows b) (Banks.Lost b - 1).toNat)[a]? with
  | none => rfl
  | some x => exact of_decide_eq_true (h.2 x (List.mem_of_getElem? e))

/-! ### A word is read -/
noncomputable def readS (b : Banks) (k a : Int) : Int × Int :=
  if wordB b k a = true then (if Banks.Lost b = k + 1 then (0, 8) else (cell (Banks.Rows b) k.toNat a.toNat, 0)) else (0, 1)
theorem read_block {b : Banks} (hb : BOk b) (k a : Int) : ((some (!(wordB b k a)) : Option Bool).bind fun v3 =>
  if v3 then
    some (((0 : Int), (1 : Int)))
  else
    if decide ((Banks.Lost b) = (w64 (k + (1 : Int)))) then
      some (((0 : Int), (8 : Int)))
    else
      (getO (Banks.Rows b) k).bind fun v8 =>
      (getO v8 a).bind fun v9 =>
      some ((v9, (0 : Int)))) = some (readS b k a) := by
  unfold readS
  cases hw : wordB b k a
  · rfl
  · obtain ⟨h1, ⟨h2, h3⟩, h4, h5⟩ := word_facts hw
    obtain ⟨_, hr⟩ := right_formed h1
    obtain ⟨i, rfl⟩ : ∃ i : Nat, k = (i : Int) := ⟨k.toNat, by omega⟩
    obtain ⟨j, rfl⟩ : ∃ j : Nat, a = (j : Int) := ⟨a.toNat, by omega⟩
    have hi : i < (Banks.Rows b).length := by omega
    have hbl := hb.rl
    have hj : j < (Banks.Rows b)[i].length := by rw [hr _ (List.getElem_mem hi)]; omega
    have hw : w64 ((i : Int) + 1) = (i : Int) + 1 := w64_id (by omega) (by omega)
    have hc : cell (Banks.Rows b) i j = (Banks.Rows b)[i][j] := by unfold cell; rw [rowAt_in hi, wordAt_in hj]
    simp only [Bool.not_true, Option.bind_some, Bool.false_eq_true, if_false, if_true, hw, getO_in hi, getO_in hj, Int.toNat_natCast, hc]
    by_cases hl : Banks.Lost b = (i : Int) + 1
    · simp only [hl, decide_true, if_true]
    · simp only [hl, decide_false, Bool.false_eq_true, if_false]
theorem parity_Read_eq {b : Banks} (hb : BOk b) (k a : Int) : parity_Read b k a = some (readS b k a) := by
  unfold parity_Read
  rw [parity_has_eq hb, word_block]
  exact read_block hb k a
theorem r07_Read_eq {b : Banks} (hb : BOk b) (k a : Int) : r07_Read b k a = some (readS b k a) := by
  unfold r07_Read
  rw [r07_has_eq hb, word_block]
  exact read_block hb k a

/-! ### Copies -/
theorem copy_loop {rows : List (List Int)} (hn : rows.length ≤ 1000) (hr : ∀ r ∈ rows, r.length ≤ 1000) : loopD (parity_Write_L1 rows (List.length rows : Int)) ((0 : Int), ([] : List (List Int))) = some rows := by
  have lp := loop_good (f := parity_Write_L1 rows (List.length rows : Int)) (n := rows.length) (e := rows) (fun i => ((i : Int), rows.take i)) (fun i hi => by
    have hlt : (i : Int) < (List.length rows : Int) := by omega
    have hl := hr rows[i] (List.getElem_mem hi)
    have h1 : cloneO 4 rows[i] = some rows[i] := cloneO_small (by omega) (by omega)
    have h2 : appO 24 (rows.take i) [rows[i]] = some (rows.take i ++ [rows[i]]) := appO_small (by simp; omega) (by omega)
    unfold parity_Write_L1
    simp only [hlt, decide_true, if_true, getO_in hi, Option.bind_some, h1, h2, take_succ_get hi, w64_succ (show i < 4611686018427387904 by omega)]) (by
    unfold parity_Write_L1
    simp only [show ¬ (List.length rows : Int) < (List.length rows : Int) by omega, decide_false, Bool.false_eq_true, if_false, List.take_length])
  simpa using lp
theorem copy_eq {b : Banks} (hb : BOk b) : (
    (cloneO 4 (Banks.Par b)).bind fun v5 =>
    let v8 : Int := (List.length (Banks.Rows b) : Int)
    (
      loopD (parity_Write_L1 (Banks.Rows b) v8) ((0 : Int), ([] : List (List Int))) : Option (List (List Int))).bind fun v9 =>
    some ((Banks.Lost b, v9, v5)) : Option (Int × (List (List Int)) × (List Int))) = some (Banks.Lost b, Banks.Rows b, Banks.Par b) := by
  have h1 : cloneO 4 (Banks.Par b) = some (Banks.Par b) := cloneO_small (by have := hb.pl; omega) (by omega)
  dsimp only
  rw [h1, Option.bind_some, copy_loop (by have := hb.rl; omega) (fun r hr => by have := hb.el r hr; omega)]
  rfl

/-! ### A word is written -/
noncomputable def writeB (b : Banks) (k a : Nat) (w : Int) : Banks :=
  Banks.mk ((Banks.Rows b).set k ((rowAt (Banks.Rows b) k).set a w)) ((Banks.Par b).set a (xo (wordAt (Banks.Par b) a) (xo (cell (Banks.Rows b) k a) w))) (Banks.Lost b)
noncomputable def writeS (b : Banks) (k a w : Int) : Banks × Int :=
  if wordB b k a = true then (if 0 < Banks.Lost b then (b, 8) else (writeB b k.toNat a.toNat w, 0)) else (b, 1)
theorem parity_Write_eq {b : Banks} (hb : BOk b) (k a w : Int) : parity_Write b k a w = some (writeS b k a w) := by
  unfold parity_Write writeS
  rw [copy_eq hb, parity_has_eq hb, word_block, show (hasB b k && (decide (0 ≤ a) && decide (a < ((Banks.Par b).length : Int)))) = wordB b k a from rfl]
  cases hw : wordB b k a
  · rfl
  · obtain ⟨h1, ⟨h2, h3⟩, h4, h5⟩ := word_facts hw
    obtain ⟨_, hr⟩ := right_formed h1
    obtain ⟨i, rfl⟩ : ∃ i : Nat, k = (i : Int) := ⟨k.toNat, by omega⟩
    obtain ⟨j, rfl⟩ : ∃ j : Nat, a = (j : Int) := ⟨a.toNat, by omega⟩
    have hi : i < (Banks.Rows b).length := by omega
    have hjp : j < (Banks.Par b).length := by omega
    have hj : j < (Banks.Rows b)[i].length := by rw [hr _ (List.getElem_mem hi)]; omega
    have hc : cell (Banks.Rows b) i j = (Banks.Rows b)[i][j] := by unfold cell; rw [rowAt_in hi, wordAt_in hj]
    by_cases hl : 0 < Banks.Lost b
    · simp only [Option.bind_some, Bool.not_true, Bool.false_eq_true, if_false, if_true, hl, decide_true]
      rfl
    · simp only [Option.bind_some, Bool.not_true, Bool.false_eq_true, if_false, if_true, hl, decide_false, idxO_in hi, idxO_in hjp, getO_in hi, getO_in hjp, idxO_in hj, getO_in hj, setO_in hj, setO_in hi, setO_in hjp, Int.toNat_natCast]
      unfold writeB
      rw [hc, rowAt_in hi, wordAt_in hjp]
      rfl
theorem r07_with_eq {b : Banks} (hb : BOk b) {i : Nat} (hi : i < (Banks.Rows b).length) (r : List Int) : r07_with b (i : Int) r = some (Banks.mk ((Banks.Rows b).set i r) (Banks.Par b) (Banks.Lost b)) := by
  unfold r07_with
  rw [appO_small (by have := hb.rl; simp; omega) (by omega), List.nil_append]
  simp only [Option.bind_some, idxO_in hi, setO_in hi]
theorem write_par {b : Banks} (hb : BOk b) (hr : rightB b = true) (hl : Banks.Lost b = 0) {i j : Nat} (hi : i < (Banks.Rows b).length) (hj : j < (Banks.Par b).length) {w : Int} (hw : wd w) :
    colTo ((Banks.Rows b).set i ((rowAt (Banks.Rows b) i).set j w)) j (-1) (Banks.Rows b).length = xo (wordAt (Banks.Par b) j) (xo (cell (Banks.Rows b) i j) w) := by
  obtain ⟨_, hf⟩ := right_formed hr
  have hrow : j < (rowAt (Banks.Rows b) i).length := by rw [hf _ (rowAt_mem hi)]; exact hj
  have hrw : ∀ x ∈ rowAt (Banks.Rows b) i, wd x := hb.rw _ (rowAt_mem hi)
  have w1 := colTo_wd hb.rw j (i : Int) (Banks.Rows b).length
  have w2 := cell_wd hb.rw i j
  rw [colTo_set hb.rw (wds_set hrw hw) hi hi, wordAt_set hrow, ← right_par hr hl hj, colTo_split hb.rw hi, xo_assoc w1 w2 (xo_wd w2 hw), ← xo_assoc w2 w2 hw, xo_self w2, zero_xo hw]
theorem r07_Write_eq {b : Banks} (hb : BOk b) (k a w : Int) (hw : wd w) : r07_Write b k a w = some (writeS b k a w) := by
  unfold r07_Write writeS
  rw [r07_has_eq hb, word_block, show (hasB b k && (decide (0 ≤ a) && decide (a < ((Banks.Par b).length : Int)))) = wordB b k a from rfl]
  cases hwb : wordB b k a
  · rfl
  · obtain ⟨h1, ⟨h2, h3⟩, h4, h5⟩ := word_facts hwb
    obtain ⟨hsz, hr⟩ := right_formed h1
    obtain ⟨i, rfl⟩ : ∃ i : Nat, k = (i : Int) := ⟨k.toNat, by omega⟩
    obtain ⟨j, rfl⟩ : ∃ j : Nat, a = (j : Int) := ⟨a.toNat, by omega⟩
    have hi : i < (Banks.Rows b).length := by omega
    have hjp : j < (Banks.Par b).length := by omega
    have hrow := hr _ (List.getElem_mem hi)
    have hj : j < (Banks.Rows b)[i].length := by rw [hrow]; omega
    have hn := hb.rl
    have hp := hb.pl
    obtain ⟨_, _, _, _, hl0, _⟩ := hsz
    by_cases hl : Banks.Lost b = 0
    · have hl' : ¬ 0 < Banks.Lost b := by omega
      have a1 : appO 4 ([] : List Int) (Banks.Rows b)[i] = some (Banks.Rows b)[i] := by rw [appO_small (by simp; omega) (by omega), List.nil_append]
      have a2 : appO 4 ([] : List Int) (Banks.Par b) = some (Banks.Par b) := by rw [appO_small (by simp; omega) (by omega), List.nil_append]
      have hset : ∀ r ∈ (Banks.Rows b).set i ((Banks.Rows b)[i].set j w), j < r.length := by
        intro r hrm
        rcases List.mem_or_eq_of_mem_set hrm with q | q
        · rw [hr r q]; exact hjp
        · rw [q, List.length_set]; exact hj
      have hcol := r07_column_eq (rows := (Banks.Rows b).set i ((Banks.Rows b)[i].set j w)) (a := j) (by rw [List.length_set]; omega) hset (-1)
      have hpar := write_par hb h1 hl hi hjp hw
      rw [rowAt_in hi] at hpar
      rw [List.length_set, hpar] at hcol
      simp only [Option.bind_some, Bool.not_true, Bool.false_eq_true, if_false, if_true, hl, hl', decide_true, getO_in hi, a1, idxO_in hj, setO_in hj, r07_with_eq hb hi, Banks.Par_mk, Banks.Rows_mk, Banks.Lost_mk, a2, hcol, idxO_in hjp, setO_in hjp, Int.toNat_natCast, show ¬ (0 : Int) < 0 by omega]
      unfold writeB
      rw [rowAt_in hi, hl]
    · have hl' : 0 < Banks.Lost b := by omega
      simp only [Option.bind_some, Bool.not_true, Bool.false_eq_true, if_false, if_true, hl, hl', decide_false, Bool.not_false]

/-! ### A bank is lost -/
noncomputable def loseB (b : Banks) (k : Nat) : Banks := Banks.mk ((Banks.Rows b).set k (List.replicate (Banks.Par b).length 0)) (Banks.Par b) ((k : Int) + 1)
noncomputable def loseS (b : Banks) (k : Int) : Banks × Int := if hasB b k = true then (if 0 < Banks.Lost b then (b, 8) else (loseB b k.toNat, 0)) else (b, 1)
theorem parity_Lose_eq {b : Banks} (hb : BOk b) (k : Int) : parity_Lose b k = some (loseS b k) := by
  unfold parity_Lose loseS
  have hc := copy_eq hb
  rw [show parity_Lose_L1 = parity_Write_L1 from rfl, hc, parity_has_eq hb]
  cases hw : hasB b k
  · rfl
  · obtain ⟨h1, h2, h3⟩ := has_facts hw
    obtain ⟨_, hr⟩ := right_formed h1
    obtain ⟨i, rfl⟩ : ∃ i : Nat, k = (i : Int) := ⟨k.toNat, by omega⟩
    have hi : i < (Banks.Rows b).length := by omega
    have hn := hb.rl
    have hw : w64 ((i : Int) + 1) = (i : Int) + 1 := w64_id (by omega) (by omega)
    by_cases hl : 0 < Banks.Lost b
    · simp only [Option.bind_some, Bool.not_true, Bool.false_eq_true, if_false, if_true, hl, decide_true]
      rfl
    · simp only [Option.bind_some, Bool.not_true, Bool.false_eq_true, if_false, if_true, hl, decide_false, idxO_in hi, getO_in hi, setO_in hi, Int.toNat_natCast, hw, hr _ (List.getElem_mem hi)]
      rfl
theorem r07_Lose_eq {b : Banks} (hb : BOk b) (k : Int) : r07_Lose b k = some (loseS b k) := by
  unfold r07_Lose loseS
  rw [r07_has_eq hb]
  cases hw : hasB b k
  · rfl
  · obtain ⟨h1, h2, h3⟩ := has_facts hw
    obtain ⟨hsz, hr⟩ := right_formed h1
    obtain ⟨i, rfl⟩ : ∃ i : Nat, k = (i : Int) := ⟨k.toNat, by omega⟩
    have hi : i < (Banks.Rows b).length := by omega
    have hn := hb.rl
    have hp := hb.pl
    have hw : w64 ((i : Int) + 1) = (i : Int) + 1 := w64_id (by omega) (by omega)
    have r1 := repO_small (z := (0 : Int)) (b := 4) (n := (Banks.Par b).length) (by omega) (by omega)
    obtain ⟨_, _, _, _, hl0, _⟩ := hsz
    by_cases hl : Banks.Lost b = 0
    · have hl' : ¬ 0 < Banks.Lost b := by omega
      simp only [Option.bind_some, Bool.not_true, Bool.false_eq_true, if_false, if_true, hl, hl', decide_true, r1, r07_with_eq hb hi, hw, Int.toNat_natCast, show ¬ (0 : Int) < 0 by omega, Banks.setLost_eq, Banks.Rows_mk, Banks.Par_mk]
      rfl
    · have hl' : 0 < Banks.Lost b := by omega
      simp only [Option.bind_some, Bool.not_true, Bool.false_eq_true, if_false, if_true, hl, hl', decide_false, Bool.not_false]

/-! ### What was lost is rebuilt -/
noncomputable def backRow (b : Banks) : List Int := (List.range (Banks.Par b).length).map fun a => xo (colTo (Banks.Rows b) a (((Banks.Lost b - 1).toNat : Nat) : Int) (Banks.Rows b).length) (wordAt (Banks.Par b) a)
noncomputable def rebuildB (b : Banks) : Banks := Banks.mk ((Banks.Rows b).set (Banks.Lost b - 1).toNat (backRow b)) (Banks.Par b) 0
noncomputable def rebuildS (b : Banks) : Banks × Int := if rightB b = true then (if Banks.Lost b = 0 then (b, 8) else (rebuildB b, 0)) else (b, 1)
theorem rowAt_app_lt {rows : List (List Int)} {r : List Int} {i : Nat} (h : i < rows.length) : rowAt (rows ++ [r]) i = rowAt rows i := by
  unfold rowAt
  rw [List.getElem?_append_left h]
theorem rowAt_app {rows : List (List Int)} {r : List Int} : rowAt (rows ++ [r]) rows.length = r := by
  unfold rowAt
  simp
theorem tog_back {b : Banks} (hb : BOk b) (hr : rightB b = true) (hl : ¬ Banks.Lost b = 0) : tog (Banks.Rows b ++ [Banks.Par b]) (Banks.Par b).length = backRow b := by
  obtain ⟨⟨_, _, _, _, h5, h6⟩, _⟩ := right_formed hr
  have hk : (Banks.Lost b - 1).toNat < (Banks.Rows b).length := by omega
  unfold tog backRow
  apply List.map_congr_left
  intro a ha
  have hlen : (Banks.Rows b ++ [Banks.Par b]).length = (Banks.Rows b).length + 1 := by simp
  have c1 : ¬ (((Banks.Rows b).length : Int) = -1) := by omega
  rw [hlen, colTo, if_neg c1]
  have e1 : cell (Banks.Rows b ++ [Banks.Par b]) (Banks.Rows b).length a = wordAt (Banks.Par b) a := by unfold cell; rw [rowAt_app]
  have e2 : colTo (Banks.Rows b ++ [Banks.Par b]) a (-1) (Banks.Rows b).length = colTo (Banks.Rows b) a (-1) (Banks.Rows b).length := colTo_congr _ fun i hi _ => by unfold cell; rw [rowAt_app_lt hi]
  rw [e1, e2, colTo_split hb.rw hk]
  have e3 : cell (Banks.Rows b) (Banks.Lost b - 1).toNat a = 0 := right_zero hr hl a
  rw [e3, xo_zero (colTo_wd hb.rw _ _ _)]
theorem parity_Rebuild_eq {b : Banks} (hb : BOk b) : parity_Rebuild b = some (rebuildS b) := by
  unfold parity_Rebuild rebuildS
  have hc := copy_eq hb
  rw [show parity_Rebuild_L3 = parity_Write_L1 from rfl, show parity_Rebuild_L2 = parity_Right_L3 from rfl, hc, parity_Right_eq hb]
  cases hr : rightB b
  · rfl
  · obtain ⟨⟨h1, h2, h3, h4, h5, h6⟩, hf⟩ := right_formed hr
    by_cases hl : Banks.Lost b = 0
    · simp only [Option.bind_some, Bool.not_true, Bool.false_eq_true, if_false, if_true, hl, decide_true]
      rw [← hl]
      rfl
    · obtain ⟨k, hk⟩ : ∃ k : Nat, Banks.Lost b - 1 = (k : Int) := ⟨(Banks.Lost b - 1).toNat, by omega⟩
      have hkn : k < (Banks.Rows b).length := by omega
      have h0 : 0 < (Banks.Rows b).length := by omega
      have g0 := getO_in h0
      rw [show (((0 : Nat) : Int)) = 0 from rfl] at g0
      have a1 : appO 24 (Banks.Rows b) [Banks.Par b] = some (Banks.Rows b ++ [Banks.Par b]) := appO_small (by simp; omega) (by omega)
      have r1 := repO_small (z := (0 : Int)) (b := 4) (n := (Banks.Par b).length) (by omega) (by omega)
      have tl := tog_loop (rows := Banks.Rows b ++ [Banks.Par b]) (words := (Banks.Par b).length) (by simp; omega) (by omega) (fun r hr' => by
        rcases List.mem_append.1 hr' with q | q
        · exact hf r q
        · rw [List.mem_singleton.1 q])
      rw [tog_back hb hr hl] at tl
      simp only [Option.bind_some, Bool.not_true, Bool.false_eq_true, if_false, if_true, hl, decide_false, g0, a1, r1, tl, (show w64 (Banks.Lost b - 1) = (k : Int) from (w64_pred h5 (show Banks.Lost b ≤ 1000 by omega)).trans hk), idxO_in hkn, setO_in hkn]
      unfold rebuildB
      rw [hk, Int.toNat_natCast]
theorem r07_Rebuild_eq {b : Banks} (hb : BOk b) : r07_Rebuild b = some (rebuildS b) := by
  unfold r07_Rebuild rebuildS
  rw [r07_Right_eq hb]
  cases hr : rightB b
  · rfl
  · obtain ⟨⟨h1, h2, h3, h4, h5, h6⟩, hf⟩ := right_formed hr
    by_cases hl : Banks.Lost b = 0
    · simp only [Option.bind_some, Bool.not_true, Bool.false_eq_true, if_false, if_true, hl, decide_true]
    · obtain ⟨k, hk⟩ : ∃ k : Nat, Banks.Lost b - 1 = (k : Int) := ⟨(Banks.Lost b - 1).toNat, by omega⟩
      have hkn : k < (Banks.Rows b).length := by omega
      have lp := loop_good (f := r07_Rebuild_L1 b) (n := (Banks.Par b).length) (e := backRow b) (fun i => ((i : Int), (backRow b).take i)) (fun i hi => by
        have hlt : (i : Int) < (List.length (Banks.Par b) : Int) := by omega
        have hbl : (backRow b).length = (Banks.Par b).length := by simp [backRow]
        have hib : i < (backRow b).length := by omega
        have hcol := r07_column_eq (rows := Banks.Rows b) (a := i) (by omega) (fun r hr' => by rw [hf r hr']; exact hi) (k : Int)
        have hv : (backRow b)[i] = bXor .u32 (Banks.Par b)[i] (colTo (Banks.Rows b) i (k : Int) (Banks.Rows b).length) := by
          have hpi : wordAt (Banks.Par b) i = (Banks.Par b)[i] := wordAt_in hi
          have hwp : wd (Banks.Par b)[i] := hb.pw _ (List.getElem_mem hi)
          simp only [backRow, List.getElem_map, List.getElem_range, hk, Int.toNat_natCast]
          rw [hpi, xo_comm (colTo_wd hb.rw _ _ _) hwp]
          rfl
        have ha : appO 4 ((backRow b).take i) [bXor .u32 (Banks.Par b)[i] (colTo (Banks.Rows b) i (k : Int) (Banks.Rows b).length)] = some ((backRow b).take (i + 1)) := by
          rw [appO_small (by simp; omega) (by omega), take_succ_get hib, hv]
        unfold r07_Rebuild_L1
        simp only [hlt, decide_true, if_true, getO_in hi, Option.bind_some, (show w64 (Banks.Lost b - 1) = (k : Int) from (w64_pred h5 (show Banks.Lost b ≤ 1000 by omega)).trans hk), hcol, ha, w64_succ (show i < 4611686018427387904 by omega)]) (by
        have hbl : (backRow b).length = (Banks.Par b).length := by simp [backRow]
        unfold r07_Rebuild_L1
        simp only [show ¬ (List.length (Banks.Par b) : Int) < (List.length (Banks.Par b) : Int) by omega, decide_false, Bool.false_eq_true, if_false]
        rw [← hbl, List.take_length])
      rw [show (((0 : Nat) : Int)) = 0 from rfl, List.take_zero] at lp
      simp only [Option.bind_some, Bool.not_true, Bool.false_eq_true, if_false, if_true, hl, decide_false, lp, (show w64 (Banks.Lost b - 1) = (k : Int) from (w64_pred h5 (show Banks.Lost b ≤ 1000 by omega)).trans hk), r07_with_eq hb hkn, Banks.setLost_eq, Banks.Rows_mk, Banks.Par_mk]
      unfold rebuildB
      rw [hk, Int.toNat_natCast]

/-! ### Banks that are alike -/
theorem r07_Same_refl {b : Banks} (h1 : (Banks.Rows b).length ≤ 1000) (h2 : (Banks.Par b).length ≤ 1000) (h3 : ∀ r ∈ Banks.Rows b, r.length ≤ 1000) : r07_Same b b = some true := by
  unfold r07_Same
  have l3 := loop_good (f := r07_Same_L3 b b) (n := (Banks.Par b).length) (e := (Sum.inl () : Unit ⊕ Bool)) (fun i => (i : Int)) (fun i hi => by
    have hlt : (i : Int) < (List.length (Banks.Par b) : Int) := by omega
    unfold r07_Same_L3
    simp only [hlt, decide_true, if_true, getO_in hi, Option.bind_some, Bool.not_true, Bool.false_eq_true, if_false, w64_succ (show i < 4611686018427387904 by omega)]) (by
    unfold r07_Same_L3
    simp only [show ¬ (List.length (Banks.Par b) : Int) < (List.length (Banks.Par b) : Int) by omega, decide_false, Bool.false_eq_true, if_false])
  have l2 := loop_good (f := r07_Same_L2 b b) (n := (Banks.Rows b).length) (e := (Sum.inl () : Unit ⊕ Bool)) (fun i => (i : Int)) (fun i hi => by
    have hlt : (i : Int) < (List.length (Banks.Rows b) : Int) := by omega
    have hrl := h3 _ (List.getElem_mem hi)
    have l1 := loop_good (f := r07_Same_L1 b b (i : Int)) (n := (Banks.Rows b)[i].length) (e := (Sum.inl () : Unit ⊕ Int ⊕ Unit ⊕ Bool)) (fun j => (j : Int)) (fun j hj => by
      have hlt : (j : Int) < (List.length (Banks.Rows b)[i] : Int) := by omega
      unfold r07_Same_L1
      simp only [getO_in hi, hlt, decide_true, if_true, getO_in hj, Option.bind_some, Bool.not_true, Bool.false_eq_true, if_false, w64_succ (show j < 4611686018427387904 by omega)]) (by
      unfold r07_Same_L1
      simp only [getO_in hi, Option.bind_some, show ¬ (List.length (Banks.Rows b)[i] : Int) < (List.length (Banks.Rows b)[i] : Int) by omega, decide_false, Bool.false_eq_true, if_false])
    rw [show (((0 : Nat) : Int)) = 0 from rfl] at l1
    unfold r07_Same_L2
    simp only [hlt, decide_true, if_true, getO_in hi, Option.bind_some, Bool.not_true, Bool.false_eq_true, if_false, l1, orExit_inl, w64_succ (show i < 4611686018427387904 by omega)]) (by
    unfold r07_Same_L2
    simp only [show ¬ (List.length (Banks.Rows b) : Int) < (List.length (Banks.Rows b) : Int) by omega, decide_false, Bool.false_eq_true, if_false])
  rw [show (((0 : Nat) : Int)) = 0 from rfl] at l2 l3
  simp only [decide_true, Bool.not_true, Bool.or_self, Bool.false_eq_true, if_false, l3, l2, orExit_inl]
theorem same_ok {b : Banks} (h : BOk b) : r07_Same b b = some true := r07_Same_refl (by have := h.rl; omega) (by have := h.pl; omega) (fun r hr => by have := h.el r hr; omega)

/-! ### New banks -/
noncomputable def newB (n m : Nat) : Banks := Banks.mk (List.replicate n (List.replicate m 0)) (List.replicate m 0) 0
theorem new_loop {n m : Nat} (hn : n ≤ 1000) (hm : m ≤ 1000) : loopD (r07_New_L1 (n : Int) (m : Int)) ((0 : Int), ([] : List (List Int))) = some (List.replicate n (List.replicate m 0)) := by
  have lp := loop_good (f := r07_New_L1 (n : Int) (m : Int)) (n := n) (e := List.replicate n (List.replicate m (0 : Int))) (fun i => ((i : Int), List.replicate i (List.replicate m (0 : Int)))) (fun i hi => by
    have hlt : (i : Int) < (n : Int) := by omega
    have r1 := repO_small (z := (0 : Int)) (b := 4) (n := m) (by omega) (by omega)
    have a1 : appO 24 (List.replicate i (List.replicate m (0 : Int))) [List.replicate m (0 : Int)] = some (List.replicate (i + 1) (List.replicate m (0 : Int))) := by
      rw [appO_small (by simp; omega) (by omega), ← List.replicate_succ']
    unfold r07_New_L1
    simp only [hlt, decide_true, if_true, r1, a1, Option.bind_some, w64_succ (show i < 4611686018427387904 by omega)]) (by
    unfold r07_New_L1
    simp only [show ¬ (n : Int) < (n : Int) by omega, decide_false, Bool.false_eq_true, if_false])
  simpa using lp
def newP (n m : Int) : Bool := decide (1 ≤ n ∧ n ≤ 8 ∧ 1 ≤ m ∧ m ≤ 64)
theorem new_cond (n m : Int) : ((decide (n < (1 : Int))) || ((decide ((8 : Int) < n)) || ((decide (m < (1 : Int))) || (decide ((64 : Int) < m))))) = !newP n m := by
  unfold newP
  by_cases h : 1 ≤ n ∧ n ≤ 8 ∧ 1 ≤ m ∧ m ≤ 64
  · rw [decide_eq_true h]
    simp only [Bool.not_true, Bool.or_eq_false_iff, decide_eq_false_iff_not]
    omega
  · rw [decide_eq_false h]
    simp only [Bool.not_false, Bool.or_eq_true, decide_eq_true_eq]
    omega
theorem new_inline (n m : Int) : (
              if (decide (n < (1 : Int))) || ((decide ((8 : Int) < n)) || ((decide (m < (1 : Int))) || (decide ((64 : Int) < m)))) then
                some (((1 : Int), ([] : List (List Int)), ([] : List Int)))
              else
                (repO (0 : Int) 4 m m).bind fun v41 =>
                (
                  loopD (r07_New_L1 n m) ((0 : Int), ([] : List (List Int))) : Option (List (List Int))).bind fun v42 =>
                some (((0 : Int), v42, v41)) : Option (Int × (List (List Int)) × (List Int))) = some (if newP n m = true then ((0 : Int), Banks.Rows (newB n.toNat m.toNat), Banks.Par (newB n.toNat m.toNat)) else ((1 : Int), [], [])) := by
  rw [new_cond]
  cases h : newP n m
  · rfl
  · unfold newP at h
    rw [decide_eq_true_eq] at h
    obtain ⟨i, rfl⟩ : ∃ i : Nat, n = (i : Int) := ⟨n.toNat, by omega⟩
    obtain ⟨j, rfl⟩ : ∃ j : Nat, m = (j : Int) := ⟨m.toNat, by omega⟩
    have r1 := repO_small (z := (0 : Int)) (b := 4) (n := j) (by omega) (by omega)
    simp only [Bool.not_true, Bool.false_eq_true, if_false, if_true, r1, Option.bind_some, new_loop (show i ≤ 1000 by omega) (show j ≤ 1000 by omega), Int.toNat_natCast]
    rfl
theorem r07_New_eq (n m : Int) : r07_New n m = some (if newP n m = true then (newB n.toNat m.toNat, 0) else (Banks.mk [] [] 0, 1)) := by
  unfold r07_New
  rw [new_cond]
  cases h : newP n m
  · rfl
  · unfold newP at h
    rw [decide_eq_true_eq] at h
    obtain ⟨i, rfl⟩ : ∃ i : Nat, n = (i : Int) := ⟨n.toNat, by omega⟩
    obtain ⟨j, rfl⟩ : ∃ j : Nat, m = (j : Int) := ⟨m.toNat, by omega⟩
    have r1 := repO_small (z := (0 : Int)) (b := 4) (n := j) (by omega) (by omega)
    simp only [Bool.not_true, Bool.false_eq_true, if_false, if_true, r1, Option.bind_some, new_loop (show i ≤ 1000 by omega) (show j ≤ 1000 by omega), Int.toNat_natCast]
    rfl

end Go.Proofs.Ytflnpiknckdmfaa
