/- Layer 21: the law TraceReads on typed data. No condition. -/
import Derived.Test.YtflnpiknckdmfaaP21
import Derived.Test.YtflnpiknckdmfaaD214
set_option linter.unusedSimpArgs false
set_option linter.unusedVariables false
namespace Go.Proofs.Ytflnpiknckdmfaa
open Go.SX

def runD (mem : List Int) (l : List Deed) : List Int := l.foldl putD mem
def holdsL : List Int → List Deed → Bool
  | _, [] => true
  | mem, d :: l => doneB mem d && holdsL (putD mem d) l
theorem holdsL_append : ∀ (a b : List Deed) (mem : List Int), holdsL mem (a ++ b) = (holdsL mem a && holdsL (runD mem a) b)
  | [], b, mem => by simp [holdsL, runD]
  | d :: a, b, mem => by simp [holdsL, runD, holdsL_append a b (putD mem d), Bool.and_assoc]
theorem holdsL_iff : ∀ (l : List Deed) (mem : List Int), holdsL mem l = true ↔ ∀ (j : Nat) (h : j < l.length), doneB (runD mem (l.take j)) l[j] = true
  | [], mem => by simp [holdsL]
  | d :: l, mem => by
    simp only [holdsL, Bool.and_eq_true]
    rw [holdsL_iff l (putD mem d)]
    constructor
    · rintro ⟨h1, h2⟩ j hj
      cases j with
      | zero => exact h1
      | succ j => exact h2 j (by simpa using hj)
    · intro h
      exact ⟨h 0 (by simp), fun j hj => h (j + 1) (by simpa using hj)⟩
theorem memD_run (l : List Deed) (w : Nat) : ∀ i, i ≤ l.length → memD l w i = runD (List.replicate w 0) (l.take i)
  | 0, _ => by simp [memD, runD]
  | i + 1, hi => by
    have hil : i < l.length := by omega
    rw [memD_succ hil, memD_run l w i (by omega), take_succ_get hil]
    unfold runD
    rw [List.foldl_append]
    rfl
theorem holds_iff {l : List Deed} {w : Nat} (h1 : 1 ≤ w) (h2 : w ≤ 64) : holdsS l (w : Int) = holdsL (List.replicate w 0) l := by
  unfold holdsS
  rw [decide_eq_true (show 1 ≤ (w : Int) ∧ (w : Int) ≤ 64 by omega), Bool.true_and, Bool.eq_iff_iff, decide_eq_true_eq, holdsL_iff, Int.toNat_natCast]
  unfold firstD
  rw [firstI_all]
  constructor
  · intro h j hj
    have := h j hj
    unfold okD at this
    rw [optT_in hj, memD_run l w j (by omega)] at this
    exact this
  · intro h j hj
    unfold okD
    rw [optT_in hj, memD_run l w j (by omega)]
    exact h j hj
theorem putD_read {mem : List Int} {d : Deed} (h : doneB mem d = true) (hk : Deed.Kind d = 1) : putD mem d = mem := by
  obtain ⟨a1, a2⟩ := doneB_at h
  unfold doneB at h
  simp only [Bool.and_eq_true, decide_eq_true_eq, Bool.or_eq_true, Bool.not_eq_true', decide_eq_false_iff_not] at h
  have hv : Deed.Val d = memN mem (Deed.At d) := by
    rcases h.2.2 with e | e
    · exact absurd hk e
    · rw [e, h.2.1]
  have hl : (Deed.At d).toNat < mem.length := by omega
  unfold putD
  rw [hv]
  unfold memN
  rw [List.getElem?_eq_getElem hl]
  simp
theorem runD_len (mem : List Int) : ∀ l : List Deed, (runD mem l).length = mem.length := fun l => by
  unfold runD
  induction l generalizing mem with
  | nil => rfl
  | cons d l ih => rw [List.foldl_cons, ih]; simp [putD]

theorem traceReads_all (l : List Deed) (words at_ wh n : Int) (hw : 0 ≤ words ∧ words < 256) (ha : 0 ≤ at_ ∧ at_ < 256) (hwh : 0 ≤ wh ∧ wh < 256) (hn : 0 ≤ n ∧ n < 256) : l21_TraceReads l words at_ wh n = some true := by
  unfold l21_TraceReads
  obtain ⟨r1, r2, r3⟩ := rem_pos (a := words) (n := 64) hw.1 (by omega)
  obtain ⟨q, hq⟩ : ∃ q : Nat, words % 64 = (q : Int) := ⟨(words % 64).toNat, by omega⟩
  rw [hq] at r1
  have hw9 : w64 (w64 (q : Int) + 1) = ((q + 1 : Nat) : Int) := by rw [w64_nat (by omega), w64_succ (by omega)]
  by_cases h100 : (100 : Int) < (l.length : Int)
  · simp only [l21_awake, Bool.not_true, Bool.false_eq_true, if_false, r1, Option.bind_some, h100, decide_true, if_true]
  · have hl : l.length ≤ 1000 := by omega
    cases hh : holdsS l ((q + 1 : Nat) : Int) with
    | false => simp only [l21_awake, Bool.not_true, Bool.false_eq_true, if_false, r1, Option.bind_some, hw9, h100, decide_false, trace_Holds_eq l hl, hh, Bool.not_false, if_true]
    | true =>
      have hL := hh
      rw [holds_iff (by omega) (by omega)] at hL
      have hwa : w64 at_ = at_ := w64_id (by omega) (by omega)
      have hwl : w64 ((l.length : Int) + 1) = ((l.length + 1 : Nat) : Int) := w64_succ (by omega)
      obtain ⟨s1, s2, s3⟩ := rem_pos (a := at_) (n := ((l.length + 1 : Nat) : Int)) ha.1 (by omega)
      obtain ⟨k, hk⟩ : ∃ k : Nat, at_ % ((l.length + 1 : Nat) : Int) = (k : Int) := ⟨(at_ % ((l.length + 1 : Nat) : Int)).toNat, by omega⟩
      rw [hk] at s1 s3
      have hkl : k ≤ l.length := by omega
      have hsub : subO l 0 (k : Int) = some (l.take k) := by
        have := subO_in (l := l) (i := 0) (j := k) (by omega) hkl
        rwa [List.drop_zero] at this
      have hsub2 : subO l (k : Int) (l.length : Int) = some (l.drop k) := by rw [subO_in hkl (Nat.le_refl _), List.take_length]
      have hsplit : holdsL (List.replicate (q + 1) 0) (l.take k) = true ∧ holdsL (runD (List.replicate (q + 1) 0) (l.take k)) (l.drop k) = true := by
        have h2 := hL
        rw [← List.take_append_drop k l, holdsL_append, Bool.and_eq_true] at h2
        exact h2
      have htk : (l.take k).length = k := by rw [List.length_take]; omega
      have hat : afterS (l.take k) ((q + 1 : Nat) : Int) = (runD (List.replicate (q + 1) 0) (l.take k), 0) := by
        unfold afterS
        rw [holds_iff (by omega) (by omega), hsplit.1, if_pos rfl, Int.toNat_natCast, memD_run _ _ _ (Nat.le_refl _), List.take_length]
      generalize hM : runD (List.replicate (q + 1) 0) (l.take k) = M at *
      have hMl : M.length = q + 1 := by rw [← hM, runD_len]; simp
      have hwh' : w64 wh = wh := w64_id (by omega) (by omega)
      obtain ⟨t1, t2, t3⟩ := rem_pos (a := wh) (n := ((q + 1 : Nat) : Int)) hwh.1 (by omega)
      obtain ⟨i, hi⟩ : ∃ i : Nat, wh % ((q + 1 : Nat) : Int) = (i : Int) := ⟨(wh % ((q + 1 : Nat) : Int)).toNat, by omega⟩
      rw [hi] at t1 t3
      have hiM : i < M.length := by omega
      obtain ⟨u1, u2, u3⟩ := rem_pos (a := n) (n := 4) hn.1 (by omega)
      obtain ⟨c, hc⟩ : ∃ c : Nat, n % 4 = (c : Int) := ⟨(n % 4).toNat, by omega⟩
      rw [hc] at u1 u3
      have hwc : w64 (c : Int) = (c : Int) := w64_nat (by omega)
      have hwc4 : w64 ((c : Int) + 4) = (c : Int) + 4 := w64_id (by omega) (by omega)
      have ap0 : ∀ x : List Deed, x.length ≤ 1000 → appO 32 ([] : List Deed) x = some x := fun x hx => appO_small (by simp; omega) (by omega)
      have ap1 : ∀ d : Deed, appO 32 (l.take k) ([d] : List Deed) = some (l.take k ++ [d]) := fun d => appO_small (by simp; omega) (by omega)
      have hmn : memN M (i : Int) = M[i] := by unfold memN; simp [hiM]
      have hdone : doneB M (Deed.mk (c : Int) 1 (i : Int) M[i] M[i]) = true := by
        unfold doneB
        simp only [Deed.Core_mk, Deed.At_mk, Deed.Kind_mk, Deed.Was_mk, Deed.Val_mk, hmn, decide_true, Bool.or_true, Bool.and_true]
        exact decide_eq_true (by omega)
      have hmore : holdsS (l.take k ++ [Deed.mk (c : Int) 1 (i : Int) M[i] M[i]] ++ l.drop k) ((q + 1 : Nat) : Int) = true := by
        rw [holds_iff (by omega) (by omega), List.append_assoc, holdsL_append, hM, hsplit.1, Bool.true_and, holdsL_append]
        have e1 : runD M [Deed.mk (c : Int) 1 (i : Int) M[i] M[i]] = M := putD_read hdone rfl
        rw [e1, hsplit.2, Bool.and_true]
        simp only [holdsL, hdone, Bool.and_true]
      have hbad : holdsS (l.take k ++ [Deed.mk ((c : Int) + 4) 1 (i : Int) M[i] M[i]]) ((q + 1 : Nat) : Int) = false := by
        rw [holds_iff (by omega) (by omega), holdsL_append, hM, hsplit.1, Bool.true_and]
        have : doneB M (Deed.mk ((c : Int) + 4) 1 (i : Int) M[i] M[i]) = false := by
          unfold doneB
          rw [decide_eq_false (by simp only [Deed.Core_mk]; omega)]
          rfl
        simp only [holdsL, this, Bool.false_and]
      have hfar : holdsS (l.take k ++ [Deed.mk 0 1 ((q + 1 : Nat) : Int) 0 0]) ((q + 1 : Nat) : Int) = false := by
        rw [holds_iff (by omega) (by omega), holdsL_append, hM, hsplit.1, Bool.true_and]
        have : doneB M (Deed.mk 0 1 ((q + 1 : Nat) : Int) 0 0) = false := by
          unfold doneB
          rw [decide_eq_false (by simp only [Deed.At_mk]; omega)]
          rfl
        simp only [holdsL, this, Bool.false_and]
      have lpt : ∀ d : Deed, (l.take k ++ [d]).length ≤ 1000 := fun d => by simp; omega
      have ap2 : ∀ d : Deed, appO 32 (l.take k ++ [d]) (l.drop k) = some (l.take k ++ [d] ++ l.drop k) := fun d => appO_small (by simp; omega) (by omega)
      have lmore : ∀ d : Deed, (l.take k ++ [d] ++ l.drop k).length ≤ 1000 := fun d => by simp; omega
      simp only [l21_awake, Bool.not_true, Bool.false_eq_true, if_false, r1, Option.bind_some, hw9, h100, decide_false, trace_Holds_eq l hl, hh, hwa, hwl, s1, hsub, trace_After_eq _ (show (l.take k).length ≤ 1000 by omega), hat, decide_true, hMl, Bool.or_self, hwh', t1, ap0 _ (show (l.take k).length ≤ 1000 by omega), u1, getO_in hiM, hwc, ap1, ap0 _ (lpt _), hsub2, ap2, hwc4, trace_Holds_eq _ (lmore _), hmore, trace_Holds_eq _ (lpt _), hbad, hfar]
      by_cases hke : k < l.length
      · have hlt : (k : Int) < (l.length : Int) := by omega
        by_cases hkd : Deed.Kind l[k] = 1
        · have hw1 := w64_succ (show k < 4611686018427387904 by omega)
          have hsub3 : subO l ((k + 1 : Nat) : Int) (l.length : Int) = some (l.drop (k + 1)) := by rw [subO_in (show k + 1 ≤ l.length by omega) (Nat.le_refl _), List.take_length]
          have ap3 : appO 32 (l.take k) (l.drop (k + 1)) = some (l.take k ++ l.drop (k + 1)) := appO_small (by simp; omega) (by omega)
          have hrest : holdsS (l.take k ++ l.drop (k + 1)) ((q + 1 : Nat) : Int) = true := by
            have h2 := hsplit.2
            rw [List.drop_eq_getElem_cons hke] at h2
            simp only [holdsL, Bool.and_eq_true] at h2
            rw [putD_read h2.1 hkd] at h2
            rw [holds_iff (by omega) (by omega), holdsL_append, hM, hsplit.1, h2.2]
            rfl
          simp only [hlt, decide_true, if_true, getO_in hke, Option.bind_some, hkd, hsub, ap0 _ (show (l.take k).length ≤ 1000 by omega), hw1, hsub3, ap3, trace_Holds_eq _ (show (l.take k ++ l.drop (k + 1)).length ≤ 1000 by simp; omega), hrest]
        · simp only [hlt, decide_true, if_true, getO_in hke, Option.bind_some, hkd, decide_false, Bool.false_eq_true, if_false]
      · have hlt : ¬ (k : Int) < (l.length : Int) := by omega
        simp only [hlt, decide_false, Bool.false_eq_true, if_false, Option.bind_some]

theorem traceReads_ok (x : Ty.Tup F_l21_TraceReads.ps) (h : OkL F_l21_TraceReads.ps x) : F_l21_TraceReads.sem x = some true :=
  traceReads_all x.1 x.2.1 x.2.2.1 x.2.2.2.1 x.2.2.2.2 ⟨h.2.1.1, Int.lt_of_le_of_lt h.2.1.2 (by decide)⟩ ⟨h.2.2.1.1, Int.lt_of_le_of_lt h.2.2.1.2 (by decide)⟩ ⟨h.2.2.2.1.1, Int.lt_of_le_of_lt h.2.2.2.1.2 (by decide)⟩ ⟨h.2.2.2.2.1, Int.lt_of_le_of_lt h.2.2.2.2.2 (by decide)⟩

end Go.Proofs.Ytflnpiknckdmfaa
