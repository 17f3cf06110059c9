/- Layer 21: the law TraceReads on typed data. No condition. -/
import Derived.Test.YtihchahfnhoapaaPQ21
--
set_option linter.unusedSimpArgs false
set_option linter.unusedVariables false
namespace Go.Proofs.Ytihchahfnhoapaa
open Go.SX

def runD (mem : List Int) (l : List Deed) : List Int := l.foldl putD mem
def holdsL : List Int → List Deed → Bool
  | _, [] => true
  | mem, d :: l => doneB mem d && holdsL (putD mem d) l
theorem holdsL_append : ∀ (a b : List Deed) (mem : List Int), holdsL mem (a ++ b) = (holdsL mem a && holdsL (runD mem a) b)
  | [], b, mem => by simp [holdsL, runD]
  | d :: a, b, mem => by simp [holdsL, runD, holdsL_append a b (putD mem d), Bool.and_assoc]
theorem holdsL_iff : ∀ (l : List Deed) (mem : List Int), holdsL mem l = true ↔ ∀ (j : Nat) (h : j < l.length), doneB (runD mem (l.take j)) l[j] = true
  | [], mem => by simp [holdsL]
  | d :: l, mem => by
    simp only [holdsL, Bool.and_eq_true]
    rw [holdsL_iff l (putD mem d)]
    constructor
    · rintro ⟨h1, h2⟩ j hj
      cases j with
      | zero => exact h1
      | succ j => exact h2 j (by simpa using hj)
    · intro h
      exact ⟨h 0 (by simp), fun j hj => h (j + 1) (by simpa using hj)⟩
theorem memD_run (l : List Deed) (w : Nat) : ∀ i, i ≤ l.length → memD l w i = runD (List.replicate w 0) (l.take i)
  | 0, _ => by simp [memD, runD]
  | i + 1, hi => by
    have hil : i < l.length := by omega
    rw [memD_succ hil, memD_run l w i (by omega), take_succ_get hil]
    unfold runD
    rw [List.foldl_append]
    rfl
theorem holds_iff {l : List Deed} {w : Nat} (h1 : 1 ≤ w) (h2 : w ≤ 64) : holdsS l (w : Int) = holdsL (List.replicate w 0) l := by
  unfold holdsS
  rw [decide_eq_true (show 1 ≤ (w : Int) ∧ (w : Int) ≤ 64 by omega), Bool.true_and, Bool.eq_iff_iff, decide_eq_true_eq, holdsL_iff, Int.toNat_natCast]
  unfold firstD
  rw [firstI_all]
  constructor
  · intro h j hj
    have := h j hj
    unfold okD at this
    rw [optT_in hj, memD_run l w j (by omega)] at this
    exact this
  · intro h j hj
    unfold okD
    rw [optT_in hj, memD_run l w j (by omega)]
    exact h j hj
theorem putD_read {mem : List Int} {d : Deed} (h : doneB mem d = true) (hk : Deed.Kind d = 1) : putD mem d = mem := by
  obtain ⟨a1, a2⟩ := doneB_at h
  unfold doneB at h
  simp only [Bool.and_eq_true, decide_eq_true_eq, Bool.or_eq_true, Bool.not_eq_true', decide_eq_false_iff_not] at h
  have hv : Deed.Val d = memN mem (Deed.At d) := by
    rcases h.2.2 with e | e
    · exact absurd hk e
    · rw [e, h.2.1]
  have hl : (Deed.At d).toNat < mem.length := by omega
  unfold putD
  rw [hv]
  unfold memN
  rw [List.getElem?_eq_getElem hl]
  simp
theorem runD_len (mem : List Int) : ∀ l : List Deed, (runD mem l).length = mem.length := fun l => by
  unfold runD
  induction l generalizing mem with
  | nil => rfl
  | cons d l ih => rw [List.foldl_cons, ih]; simp [putD]

end Go.Proofs.Ytihchahfnhoapaa
