/- Layer 23: the law FairRight on typed data. No condition. -/
import Derived.Test.YtflnpiknckdmfaaP23b
import Derived.Test.YtflnpiknckdmfaaD232
set_option linter.unusedSimpArgs false
set_option linter.unusedVariables false
namespace Go.Proofs.Ytflnpiknckdmfaa
open Go.SX

theorem r23_Same_refl (l : List Event) (hl : l.length ≤ 100000) : r23_Same l l = some true := by
  unfold r23_Same
  have lp := loop_good (f := r23_Same_L1 l l) (n := l.length) (e := (Sum.inl () : Unit ⊕ Bool)) (fun i => (i : Int)) (fun i hi => by
    have hlt : (i : Int) < (List.length l : Int) := by omega
    have he : @decide (l[i] = l[i]) (Ty.dec tEvent _ _) = true := decide_eq_true rfl
    unfold r23_Same_L1
    simp only [hlt, decide_true, if_true, getO_in hi, Option.bind_some, he, Bool.not_true, Bool.false_eq_true, if_false, w64_succ (show i < 4611686018427387904 by omega)]) (by
    unfold r23_Same_L1
    simp only [show ¬ (List.length l : Int) < (List.length l : Int) by omega, decide_false, Bool.false_eq_true, if_false])
  rw [show (((0 : Nat) : Int)) = 0 from rfl] at lp
  simp only [decide_true, Bool.not_true, Bool.false_eq_true, if_false, lp, orExit_inl]

theorem fairRight_all (l : List Event) (cores b : Int) (x : Event) (rounds frames : Int) : l23_FairRight l cores b x rounds frames = some true := by
  unfold l23_FairRight
  by_cases hc : (120 : Int) < (l.length : Int) ∨ ((60 : Int) < rounds ∧ rounds ≤ 1000)
  · have : ((decide ((120 : Int) < (List.length l : Int))) || ((decide ((60 : Int) < rounds)) && (decide (rounds ≤ (1000 : Int))))) = true := by
      simp only [Bool.or_eq_true, Bool.and_eq_true, decide_eq_true_eq]; exact hc
    simp only [l23_awake, Bool.not_true, Bool.false_eq_true, if_false, this, if_true]
  · have : ((decide ((120 : Int) < (List.length l : Int))) || ((decide ((60 : Int) < rounds)) && (decide (rounds ≤ (1000 : Int))))) = false := by
      cases h : ((decide ((120 : Int) < (List.length l : Int))) || ((decide ((60 : Int) < rounds)) && (decide (rounds ≤ (1000 : Int)))))
      · rfl
      · simp only [Bool.or_eq_true, Bool.and_eq_true, decide_eq_true_eq] at h
        exact absurd h hc
    have hl : l.length ≤ 100000 := by omega
    simp only [l23_awake, Bool.not_true, Bool.false_eq_true, if_false, this, fair_Counts_eq l hl, Option.bind_some]
    have lp := loop_good (f := l23_FairRight_L2 l ((List.range 9).map fun k => (cntN l k : Int))) (n := 9) (e := (Sum.inl () : Unit ⊕ Bool)) (fun i => (i : Int)) (fun k hk => by
      have hlt : (k : Int) < 9 := by omega
      have l1 := loop_good (f := l23_FairRight_L1 l (k : Int)) (n := l.length) (e := (cntN l k : Int)) (fun i => ((cntN (l.take i) k : Int), (i : Int))) (fun i hi => by
        have hlt : (i : Int) < (List.length l : Int) := by omega
        have hci : cntN (l.take i) k ≤ l.length := Nat.le_trans List.countP_le_length (by simp; omega)
        have hcn : cntN (l.take (i + 1)) k = cntN (l.take i) k + if Event.Kind l[i] = ((k + 1 : Nat) : Int) then 1 else 0 := by
          unfold cntN
          rw [take_succ_get hi, List.countP_append, List.countP_singleton]
          simp
        unfold l23_FairRight_L1
        simp only [hlt, decide_true, if_true, getO_in hi, Option.bind_some, w64_succ (show i < 4611686018427387904 by omega), w64_succ (show k < 4611686018427387904 by omega), w64_succ (show cntN (l.take i) k < 4611686018427387904 by omega), hcn]
        by_cases he : Event.Kind l[i] = ((k + 1 : Nat) : Int)
        · simp only [he, decide_true, cond_true, if_true]
        · simp only [he, decide_false, cond_false, if_false, Nat.add_zero]) (by
        unfold l23_FairRight_L1
        simp only [show ¬ (List.length l : Int) < (List.length l : Int) by omega, decide_false, Bool.false_eq_true, if_false, List.take_length])
      rw [show (((0 : Nat) : Int)) = 0 from rfl, show (cntN (l.take 0) k : Int) = 0 from rfl] at l1
      have hix : idxO (9 : Int) (k : Int) = some (k : Int) := idxO_lt (by omega) (by omega)
      have hg : getO ((List.range 9).map fun k => (cntN l k : Int)) (k : Int) = some (cntN l k : Int) := by
        rw [getO_in (by simp; omega)]; simp
      unfold l23_FairRight_L2
      simp only [hlt, decide_true, if_true, l1, hix, hg, Option.bind_some, Bool.not_true, Bool.false_eq_true, if_false, w64_succ (show k < 4611686018427387904 by omega)]) (by
      unfold l23_FairRight_L2
      simp)
    rw [show (((0 : Nat) : Int)) = 0 from rfl] at lp
    simp only [lp, orExit_inl]
    have hturns : ∃ t, fair_Turns cores rounds frames = some t ∧ r23_Turns cores rounds frames = some t ∧ t.length ≤ 100000 := by
      by_cases ht : turnsOk cores rounds frames
      · obtain ⟨⟨t1, t2⟩, t3, t4, t5, t6⟩ := ht
        obtain ⟨c, rfl⟩ : ∃ n : Nat, cores = (n : Int) := ⟨cores.toNat, by omega⟩
        obtain ⟨r, rfl⟩ : ∃ n : Nat, rounds = (n : Int) := ⟨rounds.toNat, by omega⟩
        obtain ⟨f, rfl⟩ : ∃ n : Nat, frames = (n : Int) := ⟨frames.toNat, by omega⟩
        refine ⟨_, fair_Turns_eq c r f (by omega) (by omega) (by omega) (by omega), r23_Turns_eq c r f (by omega) (by omega) (by omega) (by omega), ?_⟩
        rw [manyL_len, roundL_len]
        have : r * (c + f + 2) ≤ 100 * 106 := Nat.mul_le_mul (by omega) (by omega)
        omega
      · exact ⟨[], fair_Turns_no ht, r23_Turns_no ht, by simp⟩
    obtain ⟨t, ht1, ht2, ht3⟩ := hturns
    by_cases hcs : 1 ≤ cores ∧ cores ≤ 4
    · obtain ⟨c, rfl⟩ : ∃ n : Nat, cores = (n : Int) := ⟨cores.toNat, by omega⟩
      simp only [fair_Is_eq l c (by omega) (by omega) hl, r23_Is_eq l c (by omega) (by omega) hl, Option.bind_some, decide_true, if_true, fair_Gap_eq l x hl, r23_Gap_eq l x hl, fair_Least_eq l c (by omega) (by omega) hl, r23_Least_eq l c (by omega) (by omega) hl, ht1, ht2, r23_Same_refl t ht3]
    · simp only [fair_Is_no l cores b hcs, r23_Is_no l cores b hcs, Option.bind_some, decide_true, if_true, fair_Gap_eq l x hl, r23_Gap_eq l x hl, fair_Least_no l cores hcs, r23_Least_no l cores hcs, ht1, ht2, r23_Same_refl t ht3]

theorem fairRight_ok (x : Ty.Tup F_l23_FairRight.ps) (h : OkL F_l23_FairRight.ps x) : F_l23_FairRight.sem x = some true :=
  fairRight_all x.1 x.2.1 x.2.2.1 x.2.2.2.1 x.2.2.2.2.1 x.2.2.2.2.2

end Go.Proofs.Ytflnpiknckdmfaa
