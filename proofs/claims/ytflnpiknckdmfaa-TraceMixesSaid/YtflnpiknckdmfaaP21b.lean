/- Layer 21: two lists mixed; the law TraceRight on typed data. No condition. -/
import Derived.Test.YtflnpiknckdmfaaP21
import Derived.Test.YtflnpiknckdmfaaD212
set_option linter.unusedSimpArgs false
set_option linter.unusedVariables false
namespace Go.Proofs.Ytflnpiknckdmfaa
open Go.SX

theorem trace_Mix_eq (a b : List Deed) (turns : List Bool) (ha : a.length ≤ 1000) (hb : b.length ≤ 1000) (ht : turns.length ≤ 1000) : trace_Mix a b turns = some (mixS turns a b) := by
  unfold trace_Mix
  obtain ⟨a', b', out', h1, h2, h3⟩ := trace_MixL_eq (turns := turns) turns.length 0 a b [] (by omega) (by omega) (by simp; omega) ht
  rw [show ((0 : Nat) : Int) = 0 from rfl] at h1
  rw [List.drop_zero, List.nil_append] at h2
  have hfl : [out', a', b'].flatten = mixS turns a b := by simpa using h2
  have hlen : [out', a', b'].flatten.length ≤ 1000000 := by simp; omega
  have hs := concat_sum (f := trace_Mix_L2 [out', a', b'] (List.length [out', a', b'] : Int)) (xs := [out', a', b']) (fun i hi s hsl => by
    have hlt : (i : Int) < (List.length [out', a', b'] : Int) := by omega
    have hi3 : i < 3 := hi
    have hw : w64 ((s : Int) + ([out', a', b'][i].length : Int)) = ((s + [out', a', b'][i].length : Nat) : Int) := by rw [w64_id (by omega) (by omega)]; omega
    have hn : ¬ ((s + [out', a', b'][i].length : Nat) : Int) < 0 := by omega
    unfold trace_Mix_L2
    simp only [hlt, decide_true, if_true, idxO_in hi, getO_in hi, Option.bind_some, hw, hn, decide_false, Bool.false_eq_true, if_false, w64_succ (show i < 4611686018427387904 by omega)]) (fun s => by
    unfold trace_Mix_L2
    simp only [show ¬ (List.length [out', a', b'] : Int) < (List.length [out', a', b'] : Int) by omega, decide_false, Bool.false_eq_true, if_false]) hlen
  obtain ⟨buf0, hroom⟩ := concat_room (z := Deed.mk 0 0 0 0 0) (b := 32) (n := [out', a', b'].flatten.length) (by omega) (by omega)
  obtain ⟨buf, hp, hsub⟩ := concat_put (b := 32) (by omega) (f := trace_Mix_L1 [out', a', b'] (List.length [out', a', b'] : Int)) (xs := [out', a', b']) (fun i hi p buf buf' hap => by
    have hlt : (i : Int) < (List.length [out', a', b'] : Int) := by omega
    have hi3 : i < 3 := hi
    unfold trace_Mix_L1
    simp only [hlt, decide_true, if_true, idxO_in hi, getO_in hi, Option.bind_some, hap, w64_succ (show i < 4611686018427387904 by omega)]
    rw [Int.natCast_add p]) (fun p buf => by
    unfold trace_Mix_L1
    simp only [show ¬ (List.length [out', a', b'] : Int) < (List.length [out', a', b'] : Int) by omega, decide_false, Bool.false_eq_true, if_false]) hlen buf0
  have hn : ¬ (([out', a', b'].flatten.length : Nat) : Int) < 0 := by omega
  have hw : w64 (([out', a', b'].flatten.length : Int) - 0) = ([out', a', b'].flatten.length : Int) := by rw [Int.sub_zero, w64_nat (by omega)]
  simp only [h1, Option.bind_some, hs, hn, decide_false, Bool.false_eq_true, if_false, hw, hroom, hp, hsub]
  rw [hfl]

theorem r21_Mix_eq (a b : List Deed) (turns : List Bool) (ha : a.length ≤ 1000) (hb : b.length ≤ 1000) (ht : turns.length ≤ 1000) : r21_Mix a b turns = some (mixS turns a b) := by
  unfold r21_Mix
  have main : ∀ (k i p q : Nat) (out : List Deed), turns.length - i = k → i ≤ turns.length → p ≤ a.length → q ≤ b.length → out.length ≤ p + q → ∃ (p' q' : Nat) (out' : List Deed), loopD (r21_Mix_L1 a b turns) ((p : Int), (q : Int), (i : Int), out) = some ((p' : Int), (q' : Int), out') ∧ p' ≤ a.length ∧ q' ≤ b.length ∧ out'.length ≤ p' + q' ∧ out' ++ (a.drop p' ++ b.drop q') = out ++ mixS (turns.drop i) (a.drop p) (b.drop q) := by
    intro k
    induction k with
    | zero =>
      intro i p q out hk hi hp hq ho
      refine ⟨p, q, out, loop_out ?_, hp, hq, ho, ?_⟩
      · have : ¬ (i : Int) < (turns.length : Int) := by omega
        unfold r21_Mix_L1
        simp [this]
      · rw [show i = turns.length by omega, List.drop_length]
        rfl
    | succ k ih =>
      intro i p q out hk hi hp hq ho
      have hil : i < turns.length := by omega
      have hlt : (i : Int) < (turns.length : Int) := by omega
      have hd : turns.drop i = turns[i] :: turns.drop (i + 1) := List.drop_eq_getElem_cons hil
      have hw := w64_succ (show i < 4611686018427387904 by omega)
      have happ : ∀ (x : Deed), appO 32 out ([x] : List Deed) = some (out ++ [x]) := fun x => appO_small (by simp; omega) (by omega)
      rw [hd]
      cases htv : turns[i] with
      | true =>
        by_cases hqb : q < b.length
        · have hlt2 : (q : Int) < (b.length : Int) := by omega
          have hs : r21_Mix_L1 a b turns ((p : Int), (q : Int), (i : Int), out) = some (.inl ((p : Int), ((q + 1 : Nat) : Int), ((i + 1 : Nat) : Int), out ++ [b[q]])) := by
            unfold r21_Mix_L1
            simp only [hlt, decide_true, if_true, getO_in hil, htv, Option.bind_some, hlt2, getO_in hqb, happ, hw, w64_succ (show q < 4611686018427387904 by omega), Bool.not_true, Bool.false_eq_true, if_false]
          rw [loop_next hs]
          obtain ⟨p', q', out', g1, g2, g3, g4, g5⟩ := ih (i + 1) p (q + 1) (out ++ [b[q]]) (by omega) (by omega) hp (by omega) (by simp; omega)
          refine ⟨p', q', out', g1, g2, g3, g4, ?_⟩
          rw [g5, List.drop_eq_getElem_cons hqb]
          simp [mixS]
        · have hlt2 : ¬ (q : Int) < (b.length : Int) := by omega
          have hs : r21_Mix_L1 a b turns ((p : Int), (q : Int), (i : Int), out) = some (.inl ((p : Int), (q : Int), ((i + 1 : Nat) : Int), out)) := by
            unfold r21_Mix_L1
            simp only [hlt, decide_true, if_true, getO_in hil, htv, Option.bind_some, hlt2, decide_false, hw, Bool.not_true, Bool.false_eq_true, if_false]
          rw [loop_next hs]
          obtain ⟨p', q', out', g1, g2, g3, g4, g5⟩ := ih (i + 1) p q out (by omega) (by omega) hp hq ho
          refine ⟨p', q', out', g1, g2, g3, g4, ?_⟩
          rw [g5, show b.drop q = [] from List.drop_eq_nil_of_le (by omega)]
          simp [mixS]
      | false =>
        by_cases hpa : p < a.length
        · have hlt2 : (p : Int) < (a.length : Int) := by omega
          have hs : r21_Mix_L1 a b turns ((p : Int), (q : Int), (i : Int), out) = some (.inl (((p + 1 : Nat) : Int), (q : Int), ((i + 1 : Nat) : Int), out ++ [a[p]])) := by
            unfold r21_Mix_L1
            simp only [hlt, decide_true, if_true, getO_in hil, htv, Option.bind_some, hlt2, getO_in hpa, happ, hw, w64_succ (show p < 4611686018427387904 by omega), Bool.not_false, Bool.false_eq_true, if_false]
          rw [loop_next hs]
          obtain ⟨p', q', out', g1, g2, g3, g4, g5⟩ := ih (i + 1) (p + 1) q (out ++ [a[p]]) (by omega) (by omega) (by omega) hq (by simp; omega)
          refine ⟨p', q', out', g1, g2, g3, g4, ?_⟩
          rw [g5, List.drop_eq_getElem_cons hpa]
          simp [mixS]
        · have hlt2 : ¬ (p : Int) < (a.length : Int) := by omega
          have hs : r21_Mix_L1 a b turns ((p : Int), (q : Int), (i : Int), out) = some (.inl ((p : Int), (q : Int), ((i + 1 : Nat) : Int), out)) := by
            unfold r21_Mix_L1
            simp only [hlt, decide_true, if_true, getO_in hil, htv, Option.bind_some, hlt2, decide_false, hw, Bool.not_false, Bool.false_eq_true, if_false]
          rw [loop_next hs]
          obtain ⟨p', q', out', g1, g2, g3, g4, g5⟩ := ih (i + 1) p q out (by omega) (by omega) hp hq ho
          refine ⟨p', q', out', g1, g2, g3, g4, ?_⟩
          rw [g5, show a.drop p = [] from List.drop_eq_nil_of_le (by omega)]
          simp [mixS]
  obtain ⟨p', q', out', g1, g2, g3, g4, g5⟩ := main turns.length 0 0 0 [] (by omega) (by omega) (by omega) (by omega) (by simp)
  rw [show ((0 : Nat) : Int) = 0 from rfl] at g1
  simp only [List.drop_zero, List.nil_append] at g5
  have s1 : subO a (p' : Int) (a.length : Int) = some (a.drop p') := by rw [subO_in g2 (Nat.le_refl _), List.take_length]
  have s2 : subO b (q' : Int) (b.length : Int) = some (b.drop q') := by rw [subO_in g3 (Nat.le_refl _), List.take_length]
  have a1 : appO 32 out' (a.drop p') = some (out' ++ a.drop p') := appO_small (by simp; omega) (by omega)
  have a2 : appO 32 (out' ++ a.drop p') (b.drop q') = some (out' ++ a.drop p' ++ b.drop q') := appO_small (by simp; omega) (by omega)
  simp only [g1, Option.bind_some, s1, a1, s2, a2]
  rw [List.append_assoc, g5]

theorem mixS_len : ∀ (ts : List Bool) (a b : List Deed), (mixS ts a b).length = a.length + b.length
  | [], a, b => by simp [mixS]
  | true :: ts, a, [] => by simp only [mixS]; exact mixS_len ts a []
  | true :: ts, a, y :: b => by simp only [mixS, List.length_cons, mixS_len ts a b]; omega
  | false :: ts, [], b => by simp only [mixS]; exact mixS_len ts [] b
  | false :: ts, x :: a, b => by simp only [mixS, List.length_cons, mixS_len ts a b]; omega

theorem traceRight_all (a b : List Deed) (turns : List Bool) (w n : Int) : l21_TraceRight a b turns w n = some true := by
  unfold l21_TraceRight
  by_cases hc : (100 : Int) < (a.length : Int) ∨ (100 : Int) < (b.length : Int) ∨ (300 : Int) < (turns.length : Int)
  · have : (decide ((100 : Int) < (a.length : Int)) || (decide ((100 : Int) < (b.length : Int)) || decide ((300 : Int) < (turns.length : Int)))) = true := by
      simp only [Bool.or_eq_true, decide_eq_true_eq]; exact hc
    simp only [l21_awake, this, Bool.not_true, Bool.false_eq_true, if_false, if_true]
  · have hc' : (decide ((100 : Int) < (a.length : Int)) || (decide ((100 : Int) < (b.length : Int)) || decide ((300 : Int) < (turns.length : Int)))) = false := by
      simp only [Bool.or_eq_false_iff, decide_eq_false_iff_not]; omega
    have h1 : appO 32 ([] : List Deed) a = some a := appO_small (by simp; omega) (by omega)
    have hw : r04_Words (afterS a w).1 (afterS a w).1 = some true := r04_Words_refl _ (by
      unfold afterS
      split
      · rename_i hh
        unfold holdsS at hh
        simp only [Bool.and_eq_true, decide_eq_true_eq] at hh
        rw [memD_len]
        omega
      · simp)
    have hlen : (seesS a a.length).length = a.length := by simp [seesS]
    have lp := loop_good (f := l21_TraceRight_L1 a (seesS a a.length)) (n := a.length) (e := .inl ()) (fun i => (i : Int)) (fun i hi => by
      have hlt : (i : Int) < (List.length (seesS a a.length) : Int) := by omega
      have hi2 : i < (seesS a a.length).length := by omega
      have hs : (seesS a a.length)[i] = lastW a (Deed.At a[i]) i := by
        simp only [seesS, List.getElem_map, List.getElem_range, List.getElem?_eq_getElem hi]
        rfl
      unfold l21_TraceRight_L1
      simp only [hlt, decide_true, if_true, getO_in hi2, r21_Sees_eq a i hi (by omega), Option.bind_some, hs, Bool.not_true, Bool.false_eq_true, if_false, w64_succ (show i < 4611686018427387904 by omega)]) (by
      unfold l21_TraceRight_L1
      simp [hlen])
    rw [show ((0 : Nat) : Int) = 0 from rfl] at lp
    have hof := r21_Same_refl (ofS a n) (by have := List.length_filter_le (fun d => decide (Deed.Core d = n)) a; unfold ofS; omega)
    have hmx := r21_Same_refl (mixS turns a b) (by rw [mixS_len]; omega)
    have hhold : holdsS a w = (decide (1 ≤ w ∧ w ≤ 64) && decide (firstS a w = (a.length : Int))) := by
      unfold holdsS firstS
      by_cases hb : 1 ≤ w ∧ w ≤ 64
      · rw [if_pos hb]
        congr 1
        rw [decide_eq_decide]
        omega
      · simp [hb]
    have hlen' : ((seesS a a.length).length : Int) = (a.length : Int) := by omega
    simp only [l21_awake, hc', Bool.not_true, Bool.false_eq_true, if_false, h1, Option.bind_some, trace_After_eq a (by omega), r21_After_eq a (by omega), r21_First_eq a (by omega), hw, decide_true, trace_First_eq a (by omega), trace_Holds_eq a (by omega), trace_Sees_eq a (by omega), hlen', lp, orExit_inl, trace_Of_eq a (by omega), r21_Of_eq a (by omega), hof, if_true, trace_Mix_eq a b turns (by omega) (by omega) (by omega), r21_Mix_eq a b turns (by omega) (by omega) (by omega), hmx, r21_Same_refl a (by omega)]
    by_cases hb : 1 ≤ w ∧ w ≤ 64
    · have hb' : (decide (1 ≤ w) && decide (w ≤ 64)) = true := by simp [hb]
      simp [hb', hhold, hb]
    · have hb' : (decide (1 ≤ w) && decide (w ≤ 64)) = false := by
        rw [Bool.and_eq_false_iff, decide_eq_false_iff_not, decide_eq_false_iff_not]; omega
      simp [hb', hhold, hb]

theorem traceRight_ok (x : Ty.Tup F_l21_TraceRight.ps) (h : OkL F_l21_TraceRight.ps x) : F_l21_TraceRight.sem x = some true :=
  traceRight_all x.1 x.2.1 x.2.2.1 x.2.2.2.1 x.2.2.2.2

end Go.Proofs.Ytflnpiknckdmfaa
