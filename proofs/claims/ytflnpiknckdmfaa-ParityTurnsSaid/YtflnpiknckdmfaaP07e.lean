/- Layer 7: banks that are written: they stay right, and what is lost comes back. -/
import Derived.Test.YtflnpiknckdmfaaP07d
set_option linter.unusedSimpArgs false
set_option linter.unusedVariables false
namespace Go.Proofs.Ytflnpiknckdmfaa
open Go.SX

structure Good (n m : Nat) (b : Banks) : Prop where
  ok : BOk b
  right : rightB b = true
  lost : Banks.Lost b = 0
  rl : (Banks.Rows b).length = n
  pl : (Banks.Par b).length = m
theorem Good.row {n m : Nat} {b : Banks} (g : Good n m b) {k : Nat} (hk : k < n) : (rowAt (Banks.Rows b) k).length = m := by
  rw [(right_formed g.right).2 _ (rowAt_mem (by rw [g.rl]; exact hk)), g.pl]
theorem Good.par {n m : Nat} {b : Banks} (g : Good n m b) {a : Nat} (ha : a < m) : colTo (Banks.Rows b) a (-1) n = wordAt (Banks.Par b) a := by
  have := right_par g.right g.lost (a := a) (by rw [g.pl]; exact ha)
  rwa [g.rl] at this
theorem right_of {n m : Nat} {b : Banks} (hn : 1 ≤ n ∧ n ≤ 8) (hm : 1 ≤ m ∧ m ≤ 64) (rl : (Banks.Rows b).length = n) (pl : (Banks.Par b).length = m) (hl : Banks.Lost b = 0) (hr : ∀ r ∈ Banks.Rows b, r.length = m)
    (hp : ∀ a, a < m → colTo (Banks.Rows b) a (-1) n = wordAt (Banks.Par b) a) : rightB b = true := by
  unfold rightB formedB
  rw [Bool.and_eq_true, Bool.and_eq_true, decide_eq_true_eq, List.all_eq_true, if_pos hl, range_all]
  refine ⟨⟨?_, fun r h => decide_eq_true (by rw [hr r h, pl])⟩, fun a ha => decide_eq_true ?_⟩
  · unfold sizeP
    rw [rl, pl, hl]
    omega
  · rw [rl]
    exact hp a (by rw [← pl]; exact ha)
theorem good_new {n m : Nat} (hn : 1 ≤ n ∧ n ≤ 8) (hm : 1 ≤ m ∧ m ≤ 64) : Good n m (newB n m) := by
  have rl : (Banks.Rows (newB n m)).length = n := List.length_replicate
  have pl : (Banks.Par (newB n m)).length = m := List.length_replicate
  refine ⟨newB_ok hn.2 hm.2, right_of hn hm rl pl rfl (fun r hr => ?_) (fun a ha => ?_), rfl, rl, pl⟩
  · rw [List.eq_of_mem_replicate hr, List.length_replicate]
  · have hz : ∀ k, cell (Banks.Rows (newB n m)) k a = 0 := by
      intro k
      unfold cell rowAt wordAt newB
      rw [Banks.Rows_mk, List.getElem?_replicate]
      split
      · show ((List.replicate m (0 : Int))[a]?).getD 0 = 0
        rw [List.getElem?_replicate]
        split <;> rfl
      · rfl
    have hc : ∀ k, colTo (Banks.Rows (newB n m)) a (-1) k = 0 := by
      intro k
      induction k with
      | zero => rfl
      | succ k ih =>
        have c1 : ¬ ((k : Int) = -1) := by omega
        rw [colTo, if_neg c1, ih, hz, xo_zero wd0]
    rw [hc]
    unfold wordAt newB
    rw [Banks.Par_mk, List.getElem?_replicate]
    split <;> rfl
theorem good_write {n m : Nat} {b : Banks} (g : Good n m b) {k a : Nat} (hk : k < n) (ha : a < m) {w : Int} (hw : wd w) : Good n m (writeB b k a w) := by
  obtain ⟨⟨s1, s2, s3, s4, _, _⟩, hf⟩ := right_formed g.right
  have hkr : k < (Banks.Rows b).length := by rw [g.rl]; exact hk
  have rl : (Banks.Rows (writeB b k a w)).length = n := by show ((Banks.Rows b).set k _).length = n; rw [List.length_set, g.rl]
  have pl : (Banks.Par (writeB b k a w)).length = m := by show ((Banks.Par b).set a _).length = m; rw [List.length_set, g.pl]
  have hrow := g.ok.rw _ (rowAt_mem hkr)
  refine ⟨writeB_ok g.ok hkr hw, right_of (by rw [← g.rl]; exact ⟨s1, s2⟩) (by rw [← g.pl]; exact ⟨s3, s4⟩) rl pl g.lost (fun r hr => ?_) (fun c hc => ?_), g.lost, rl, pl⟩
  · rcases List.mem_or_eq_of_mem_set hr with q | q
    · rw [hf r q, g.pl]
    · rw [q, List.length_set, g.row hk]
  · show colTo ((Banks.Rows b).set k ((rowAt (Banks.Rows b) k).set a w)) c (-1) n = wordAt ((Banks.Par b).set a _) c
    by_cases hac : a = c
    · subst hac
      have h1 := write_par g.ok g.right g.lost hkr (j := a) (by rw [g.pl]; exact ha) hw
      rw [g.rl] at h1
      rw [h1, wordAt_set (by rw [g.pl]; exact ha)]
    · rw [wordAt_set_ne hac, ← g.par hc]
      refine colTo_congr n fun i hi _ => ?_
      unfold cell
      by_cases hik : k = i
      · subst hik
        rw [rowAt_set hkr, wordAt_set_ne hac]
      · rw [rowAt_set_ne hik]
/-- Right banks are told by their rows. -/
theorem good_eq {n m : Nat} {b c : Banks} (g : Good n m b) (h : Good n m c) (hr : Banks.Rows b = Banks.Rows c) : b = c := by
  have hp : Banks.Par b = Banks.Par c := by
    apply List.ext_getElem (by rw [g.pl, h.pl])
    intro a ha hc
    have h1 := g.par (a := a) (by rw [← g.pl]; exact ha)
    have h2 := h.par (a := a) (by rw [← h.pl]; exact hc)
    rw [wordAt_in ha] at h1
    rw [wordAt_in hc] at h2
    rw [← h1, ← h2, hr]
  rw [← Banks.eta b, ← Banks.eta c, hr, hp, g.lost, h.lost]

theorem good_word {n m : Nat} {b : Banks} (g : Good n m b) {k a : Nat} (hk : k < n) (ha : a < m) : wordB b (k : Int) (a : Int) = true := by
  unfold wordB hasB
  rw [g.right, g.rl, g.pl]
  simp only [Bool.true_and, Bool.and_eq_true, decide_eq_true_eq]
  omega
theorem good_writeS {n m : Nat} {b : Banks} (g : Good n m b) {k a : Nat} (hk : k < n) (ha : a < m) (w : Int) : parity_Write b (k : Int) (a : Int) w = some (writeB b k a w, 0) := by
  rw [parity_Write_eq g.ok]
  unfold writeS
  rw [if_pos (good_word g hk ha), g.lost, if_neg (by omega), Int.toNat_natCast, Int.toNat_natCast]
theorem good_read {n m : Nat} {b : Banks} (g : Good n m b) {k a : Nat} (hk : k < n) (ha : a < m) : parity_Read b (k : Int) (a : Int) = some (cell (Banks.Rows b) k a, 0) := by
  rw [parity_Read_eq g.ok]
  unfold readS
  rw [if_pos (good_word g hk ha), g.lost, if_neg (by omega), Int.toNat_natCast, Int.toNat_natCast]

/-! ### What is lost -/
theorem lose_right {n m : Nat} {b : Banks} (g : Good n m b) {k : Nat} (hk : k < n) : rightB (loseB b k) = true := by
  obtain ⟨⟨s1, s2, s3, s4, _, _⟩, hf⟩ := right_formed g.right
  have hkr : k < (Banks.Rows b).length := by rw [g.rl]; exact hk
  have rl : (Banks.Rows (loseB b k)).length = (Banks.Rows b).length := List.length_set
  have hl : ¬ Banks.Lost (loseB b k) = 0 := by show ¬ (k : Int) + 1 = 0; omega
  have hk1 : (Banks.Lost (loseB b k) - 1).toNat = k := by show ((k : Int) + 1 - 1).toNat = k; omega
  unfold rightB formedB
  rw [Bool.and_eq_true, Bool.and_eq_true, decide_eq_true_eq, List.all_eq_true, if_neg hl, hk1]
  refine ⟨⟨?_, fun r hr => decide_eq_true ?_⟩, ?_⟩
  · unfold sizeP
    rw [rl]
    refine ⟨s1, s2, s3, s4, ?_, ?_⟩
    · show 0 ≤ (k : Int) + 1; omega
    · show (k : Int) + 1 ≤ _; omega
  · rcases List.mem_or_eq_of_mem_set hr with q | q
    · exact hf r q
    · rw [q, List.length_replicate]; rfl
  · have : rowAt (Banks.Rows (loseB b k)) k = List.replicate (Banks.Par b).length 0 := rowAt_set hkr _
    rw [this, List.all_eq_true]
    intro x hx
    rw [List.eq_of_mem_replicate hx]
    rfl
theorem back_row {n m : Nat} {b : Banks} (g : Good n m b) {k : Nat} (hk : k < n) : backRow (loseB b k) = rowAt (Banks.Rows b) k := by
  have hkr : k < (Banks.Rows b).length := by rw [g.rl]; exact hk
  have hk1 : (Banks.Lost (loseB b k) - 1).toNat = k := by show ((k : Int) + 1 - 1).toNat = k; omega
  have rl : (Banks.Rows (loseB b k)).length = n := by show ((Banks.Rows b).set k _).length = n; rw [List.length_set, g.rl]
  have hlen := g.row hk
  apply List.ext_getElem (by rw [hlen]; simp [backRow]; exact g.pl)
  intro a ha hb
  have ham : a < m := by rw [← hlen]; exact hb
  simp only [backRow, List.getElem_map, List.getElem_range, hk1, rl]
  have e1 : colTo (Banks.Rows (loseB b k)) a (k : Int) n = colTo (Banks.Rows b) a (k : Int) n := colTo_congr n fun i hi hne => by
    unfold cell
    show wordAt (rowAt ((Banks.Rows b).set k _) i) a = _
    rw [rowAt_set_ne (by omega)]
  have e2 : wordAt (Banks.Par (loseB b k)) a = xo (colTo (Banks.Rows b) a (k : Int) n) (cell (Banks.Rows b) k a) := by
    rw [← colTo_split g.ok.rw hk, g.par ham]
    rfl
  have w1 := colTo_wd g.ok.rw a (k : Int) n
  have w2 := cell_wd g.ok.rw k a
  rw [e1, e2, ← xo_assoc w1 w1 w2, xo_self w1, zero_xo w2]
  unfold cell
  rw [wordAt_in hb]
theorem rebuild_back {n m : Nat} {b : Banks} (g : Good n m b) {k : Nat} (hk : k < n) : rebuildB (loseB b k) = b := by
  have hkr : k < (Banks.Rows b).length := by rw [g.rl]; exact hk
  have hk1 : (Banks.Lost (loseB b k) - 1).toNat = k := by show ((k : Int) + 1 - 1).toNat = k; omega
  unfold rebuildB
  rw [back_row g hk, hk1]
  have e : (Banks.Rows (loseB b k)).set k (rowAt (Banks.Rows b) k) = Banks.Rows b := by
    show ((Banks.Rows b).set k _).set k _ = _
    rw [List.set_set, rowAt_in hkr, List.set_getElem_self]
  rw [e]
  have : Banks.mk (Banks.Rows b) (Banks.Par b) (Banks.Lost b) = b := Banks.eta b
  rw [g.lost] at this
  exact this
theorem lose_word {n m : Nat} {b : Banks} (g : Good n m b) {k x y : Nat} (hk : k < n) (hx : x < n) (hy : y < m) : wordB (loseB b k) (x : Int) (y : Int) = true := by
  have rl : (Banks.Rows (loseB b k)).length = n := by show ((Banks.Rows b).set k _).length = n; rw [List.length_set, g.rl]
  have pl : (Banks.Par (loseB b k)).length = m := g.pl
  unfold wordB hasB
  rw [lose_right g hk, rl, pl]
  simp only [Bool.true_and, Bool.and_eq_true, decide_eq_true_eq]
  omega
theorem lose_read {n m : Nat} {b : Banks} (g : Good n m b) {k x y : Nat} (hk : k < n) (hx : x < n) (hy : y < m) : parity_Read (loseB b k) (x : Int) (y : Int) = some (if x = k then (0, 8) else (cell (Banks.Rows b) x y, 0)) := by
  rw [parity_Read_eq (loseB_ok g.ok k)]
  unfold readS
  rw [if_pos (lose_word g hk hx hy), Int.toNat_natCast, Int.toNat_natCast]
  by_cases h : x = k
  · have : Banks.Lost (loseB b k) = (x : Int) + 1 := by show (k : Int) + 1 = _; omega
    rw [if_pos this, if_pos h]
  · have : ¬ Banks.Lost (loseB b k) = (x : Int) + 1 := by show ¬ (k : Int) + 1 = _; omega
    rw [if_neg this, if_neg h]
    unfold cell
    show some (wordAt (rowAt ((Banks.Rows b).set k _) x) y, (0 : Int)) = _
    rw [rowAt_set_ne (fun e => h e.symm)]
theorem lose_eq {n m : Nat} {b : Banks} (g : Good n m b) {k : Nat} (hk : k < n) : parity_Lose b (k : Int) = some (loseB b k, 0) := by
  rw [parity_Lose_eq g.ok]
  unfold loseS
  have : hasB b (k : Int) = true := by
    unfold hasB
    rw [g.right, g.rl]
    simp only [Bool.true_and, Bool.and_eq_true, decide_eq_true_eq]
    omega
  rw [if_pos this, g.lost, if_neg (by omega), Int.toNat_natCast]
theorem lost_write {n m : Nat} {b : Banks} (g : Good n m b) {k x y : Nat} (hk : k < n) (hx : x < n) (hy : y < m) (w : Int) : parity_Write (loseB b k) (x : Int) (y : Int) w = some (loseB b k, 8) := by
  rw [parity_Write_eq (loseB_ok g.ok k)]
  unfold writeS
  have : 0 < Banks.Lost (loseB b k) := by show 0 < (k : Int) + 1; omega
  rw [if_pos (lose_word g hk hx hy), if_pos this]
theorem lost_lose {n m : Nat} {b : Banks} (g : Good n m b) {k : Nat} (hk : k < n) : parity_Lose (loseB b k) (k : Int) = some (loseB b k, 8) := by
  have rl : (Banks.Rows (loseB b k)).length = n := by show ((Banks.Rows b).set k _).length = n; rw [List.length_set, g.rl]
  rw [parity_Lose_eq (loseB_ok g.ok k)]
  unfold loseS
  have h1 : hasB (loseB b k) (k : Int) = true := by
    unfold hasB
    rw [lose_right g hk, rl]
    simp only [Bool.true_and, Bool.and_eq_true, decide_eq_true_eq]
    omega
  have h2 : 0 < Banks.Lost (loseB b k) := by show 0 < (k : Int) + 1; omega
  rw [if_pos h1, if_pos h2]
theorem lost_rebuild {n m : Nat} {b : Banks} (g : Good n m b) {k : Nat} (hk : k < n) : parity_Rebuild (loseB b k) = some (b, 0) := by
  rw [parity_Rebuild_eq (loseB_ok g.ok k)]
  unfold rebuildS
  have h2 : ¬ Banks.Lost (loseB b k) = 0 := by show ¬ (k : Int) + 1 = 0; omega
  rw [if_pos (lose_right g hk), if_neg h2, rebuild_back g hk]

end Go.Proofs.Ytflnpiknckdmfaa
