/- Layer 7: the law ParityRight on typed data. -/
import Derived.Test.YtflnpiknckdmfaaP07c
import Derived.Test.YtflnpiknckdmfaaD072
set_option linter.unusedSimpArgs false
set_option linter.unusedVariables false
namespace Go.Proofs.Ytflnpiknckdmfaa
open Go.SX

theorem writeB_ok {b : Banks} (hb : BOk b) {i j : Nat} (hi : i < (Banks.Rows b).length) {w : Int} (hw : wd w) : BOk (writeB b i j w) := by
  have hrow := hb.rw _ (rowAt_mem hi)
  refine ⟨?_, ?_, ?_, ?_, ?_⟩
  · show ((Banks.Rows b).set i _).length ≤ 10
    rw [List.length_set]; exact hb.rl
  · show ((Banks.Par b).set j _).length ≤ 80
    rw [List.length_set]; exact hb.pl
  · intro r hr
    rcases List.mem_or_eq_of_mem_set hr with q | q
    · exact hb.el r q
    · rw [q, List.length_set]; exact hb.el _ (rowAt_mem hi)
  · exact rowsWd_set hb.rw (wds_set hrow hw)
  · have hc := cell_wd hb.rw i j
    exact wds_set hb.pw (xo_wd (wordAt_wd hb.pw j) (xo_wd hc hw))
theorem loseB_ok {b : Banks} (hb : BOk b) (i : Nat) : BOk (loseB b i) := by
  refine ⟨?_, hb.pl, ?_, ?_, hb.pw⟩
  · show ((Banks.Rows b).set i _).length ≤ 10
    rw [List.length_set]; exact hb.rl
  · intro r hr
    rcases List.mem_or_eq_of_mem_set hr with q | q
    · exact hb.el r q
    · rw [q, List.length_replicate]; exact hb.pl
  · exact rowsWd_set hb.rw (fun x hx => by rw [List.eq_of_mem_replicate hx]; exact wd0)
theorem rebuildB_ok {b : Banks} (hb : BOk b) : BOk (rebuildB b) := by
  refine ⟨?_, hb.pl, ?_, ?_, hb.pw⟩
  · show ((Banks.Rows b).set _ _).length ≤ 10
    rw [List.length_set]; exact hb.rl
  · intro r hr
    rcases List.mem_or_eq_of_mem_set hr with q | q
    · exact hb.el r q
    · rw [q]; simp [backRow]; exact hb.pl
  · refine rowsWd_set hb.rw (fun x hx => ?_)
    obtain ⟨a, _, e⟩ := List.mem_map.1 hx
    rw [← e]
    exact xo_wd (colTo_wd hb.rw _ _ _) (wordAt_wd hb.pw a)
theorem newB_ok {n m : Nat} (hn : n ≤ 8) (hm : m ≤ 64) : BOk (newB n m) := by
  refine ⟨?_, ?_, ?_, ?_, ?_⟩
  · show (List.replicate n (List.replicate m (0 : Int))).length ≤ 10
    rw [List.length_replicate]; omega
  · show (List.replicate m (0 : Int)).length ≤ 80
    rw [List.length_replicate]; omega
  · intro r hr
    rw [List.eq_of_mem_replicate hr, List.length_replicate]; omega
  · intro r hr x hx
    rw [List.eq_of_mem_replicate hr] at hx
    rw [List.eq_of_mem_replicate hx]
    exact wd0
  · intro x hx
    rw [List.eq_of_mem_replicate hx]
    exact wd0
theorem writeS_ok {b : Banks} (hb : BOk b) (k a : Int) {w : Int} (hw : wd w) : BOk (writeS b k a w).1 := by
  unfold writeS
  cases h : wordB b k a
  · exact hb
  · obtain ⟨_, ⟨h2, h3⟩, _⟩ := word_facts h
    rw [if_pos rfl]
    split
    · exact hb
    · exact writeB_ok hb (by omega) hw
theorem loseS_ok {b : Banks} (hb : BOk b) (k : Int) : BOk (loseS b k).1 := by
  unfold loseS
  split
  · split
    · exact hb
    · exact loseB_ok hb _
  · exact hb
theorem rebuildS_ok {b : Banks} (hb : BOk b) : BOk (rebuildS b).1 := by
  unfold rebuildS
  split
  · split
    · exact hb
    · exact rebuildB_ok hb
  · exact hb

theorem mine_loop {b : Banks} (hb : BOk b) : loopD (l07_ParityRight_L2 b) ((0 : Int), ([] : List (List Int))) = some (Banks.Rows b) := by
  have hn := hb.rl
  have lp := loop_good (f := l07_ParityRight_L2 b) (n := (Banks.Rows b).length) (e := Banks.Rows b) (fun i => ((i : Int), (Banks.Rows b).take i)) (fun i hi => by
    have hlt : (i : Int) < (List.length (Banks.Rows b) : Int) := by omega
    have hl := hb.el _ (List.getElem_mem hi)
    have h1 : appO 4 ([] : List Int) (Banks.Rows b)[i] = some (Banks.Rows b)[i] := by rw [appO_small (by simp; omega) (by omega), List.nil_append]
    have h2 : appO 24 ((Banks.Rows b).take i) [(Banks.Rows b)[i]] = some ((Banks.Rows b).take i ++ [(Banks.Rows b)[i]]) := appO_small (by simp; omega) (by omega)
    unfold l07_ParityRight_L2
    simp only [hlt, decide_true, if_true, getO_in hi, Option.bind_some, h1, h2, take_succ_get hi, w64_succ (show i < 4611686018427387904 by omega)]) (by
    unfold l07_ParityRight_L2
    simp only [show ¬ (List.length (Banks.Rows b) : Int) < (List.length (Banks.Rows b) : Int) by omega, decide_false, Bool.false_eq_true, if_false, List.take_length])
  simpa using lp

theorem parityRight_all (b : Banks) (k a w n m : Int) (h1 : rowsWd (Banks.Rows b)) (h2 : ∀ x ∈ Banks.Par b, wd x) (hw : wd w) : l07_ParityRight b k a w n m = some true := by
  unfold l07_ParityRight
  rw [r07_Short_eq]
  cases hs : shortB b
  · rfl
  have hb := short_ok hs h1 h2
  have hp := hb.pl
  have a2 : appO 4 ([] : List Int) (Banks.Par b) = some (Banks.Par b) := by rw [appO_small (by simp; omega) (by omega), List.nil_append]
  have ni := new_inline n m
  have hn : ∀ x : Int × List (List Int) × List Int, x = (if newP n m = true then ((0 : Int), Banks.Rows (newB n.toNat m.toNat), Banks.Par (newB n.toNat m.toNat)) else ((1 : Int), [], [])) →
      r07_Same (Banks.mk x.2.1 x.2.2 0) (if newP n m = true then (newB n.toNat m.toNat, (0 : Int)) else (Banks.mk [] [] 0, 1)).1 = some true ∧ x.1 = (if newP n m = true then (newB n.toNat m.toNat, (0 : Int)) else (Banks.mk [] [] 0, 1)).2 := by
    intro x hx
    subst hx
    cases h : newP n m
    · exact ⟨r07_Same_refl (b := Banks.mk [] [] 0) (by simp) (by simp) (fun r hr => by cases hr), rfl⟩
    · unfold newP at h
      rw [decide_eq_true_eq] at h
      exact ⟨same_ok (b := newB n.toNat m.toNat) (newB_ok (by omega) (by omega)), rfl⟩
  obtain ⟨k1, k2⟩ := hn _ rfl
  simp only [l07_awake, Bool.not_true, Bool.false_eq_true, if_false, Option.bind_some, a2, mine_loop hb, Banks.eta, parity_Read_eq hb, r07_Read_eq hb, decide_true, Bool.or_self, parity_Write_eq hb, r07_Write_eq hb _ _ _ hw,
    same_ok (writeS_ok hb k a hw), parity_Lose_eq hb, r07_Lose_eq hb, same_ok (loseS_ok hb k), parity_Rebuild_eq hb, r07_Rebuild_eq hb, same_ok (rebuildS_ok hb)]
  rw [show l07_ParityRight_L1 = r07_New_L1 from rfl, ni]
  simp only [Option.bind_some, r07_New_eq, k1, k2, if_true, decide_true, parity_Right_eq hb, r07_Right_eq hb, same_ok hb]

theorem parityRight_ok (x : Ty.Tup F_l07_ParityRight.ps) (h : OkL F_l07_ParityRight.ps x) : F_l07_ParityRight.sem x = some true :=
  parityRight_all x.1 x.2.1 x.2.2.1 x.2.2.2.1 x.2.2.2.2.1 x.2.2.2.2.2 (fun r hr y hy => by
    have := (h.1.1.2 r hr).2 y hy
    exact ⟨this.1, Int.lt_of_le_of_lt this.2 (by decide)⟩) (fun y hy => by
    have := h.1.2.1.2 y hy
    exact ⟨this.1, Int.lt_of_le_of_lt this.2 (by decide)⟩) (by
    have := h.2.2.2.1
    exact ⟨this.1, Int.lt_of_le_of_lt this.2 (by decide)⟩)

end Go.Proofs.Ytflnpiknckdmfaa
