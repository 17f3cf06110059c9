/- Layer 11: right logs by their entries; the law UndoRight on typed data. No condition. -/
import Derived.Test.YtklkpogdghiagaaP11c
import Derived.Test.YtklkpogdghiagaaD113
set_option linter.unusedSimpArgs false
set_option linter.unusedVariables false
namespace Go.Proofs.Ytklkpogdghiagaa
open Go.SX

theorem small_write {l : Log} (h : smallL l) (h2 : (Log.Lst l).length ≤ 990) (a w : Int) : smallL (writeS l a w).1 := by
  unfold writeS smallL
  have h1 := h.1
  split
  · split
    · simp; omega
    · split
      · exact h
      · simp; omega
  · exact h
theorem small_back {l : Log} (h : smallL l) (to : Int) : smallL (backS l to).1 := by
  unfold backS smallL
  have h1 := h.1
  have h2 := h.2
  have h3 := List.length_filter_le (stays to) (Log.Lst l)
  split
  · simp only [Log.Mem_mk, Log.Lst_mk, restore, foldB_len]
    omega
  · exact h
theorem small_trim {l : Log} (h : smallL l) (to : Int) : smallL (trimS l to).1 := by
  unfold trimS smallL
  have h1 := h.1
  have h2 := h.2
  have h3 := List.length_filter_le (goes to) (Log.Lst l)
  split
  · simp only [Log.Mem_mk, Log.Lst_mk]
    omega
  · exact h
theorem small_next {l : Log} (h : smallL l) : smallL (nextS l).1 := by
  unfold nextS
  split <;> exact h
theorem small_new (n : Int) : smallL (newS n).1 := by
  unfold newS smallL
  split
  · simp; omega
  · simp

theorem undoRight_all (l : Log) (a w to n : Int) : l11_UndoRight l a w to n = some true := by
  unfold l11_UndoRight
  by_cases hc : (80 : Int) < ((Log.Mem l).length : Int) ∨ (300 : Int) < ((Log.Lst l).length : Int)
  · have : (decide ((80 : Int) < ((Log.Mem l).length : Int)) || decide ((300 : Int) < ((Log.Lst l).length : Int))) = true := by simpa using hc
    simp [l11_awake, this]
  · have hc' : (decide ((80 : Int) < ((Log.Mem l).length : Int)) || decide ((300 : Int) < ((Log.Lst l).length : Int))) = false := by
      rw [Bool.or_eq_false_iff, decide_eq_false_iff_not, decide_eq_false_iff_not]; omega
    have hs : smallL l := by unfold smallL; omega
    have h1 : appO 4 ([] : List Int) (Log.Mem l) = some (Log.Mem l) := appO_small (by have := hs.1; simp; omega) (by omega)
    have h2 : appO 24 ([] : List Undo) (Log.Lst l) = some (Log.Lst l) := appO_small (by have := hs.2; simp; omega) (by omega)
    have e1 := r11_Same_refl _ (small_write hs (by omega) a w)
    have e2 := r11_Same_refl _ (small_back hs to)
    have e3 := r11_Same_refl _ (small_trim hs to)
    have e4 := r11_Same_refl _ (small_new n)
    have e5 := r11_Same_refl _ (small_next hs)
    have e6 := r11_Same_refl _ hs
    have hnext : (bif rightS l && decide (Log.Span l < 1099511627776) then Log.setSpan l (w64 (Log.Span l + 1)) else l) = (nextS l).1 := by
      unfold nextS
      cases hr : rightS l with
      | false => simp
      | true =>
        have hz := (rightS_facts hr).1
        unfold sizeS at hz
        have hw : w64 (Log.Span l + 1) = Log.Span l + 1 := w64_id (by omega) (by omega)
        by_cases hsp : Log.Span l < 1099511627776 <;> simp [hsp, hw]
    have hroom : (bif rightS l then w64 ((256 : Int) - (List.length (Log.Lst l) : Int)) else (0 : Int)) = roomS l := by
      unfold roomS
      have hw : w64 (256 - ((Log.Lst l).length : Int)) = 256 - ((Log.Lst l).length : Int) := w64_id (by omega) (by omega)
      cases rightS l <;> simp [hw]
    have hn2 : (nextS l).2 = if rightS l = true ∧ Log.Span l < 1099511627776 then 0 else 1 := by
      unfold nextS
      split <;> rfl
    simp only [l11_awake, Bool.not_true, Bool.false_eq_true, if_false, hc', h1, h2, Option.bind_some, Log.eta, undo_Write_eq l hs, r11_Write_eq l hs, undo_Back_eq l hs, r11_Back_eq l hs, undo_Trim_eq l hs, r11_Trim_eq l hs, undo_New_eq, r11_New_eq, r11_Right_eq l hs.2, undo_Next_eq l hs, undo_Right_eq l hs.2, undo_Room_eq l hs,
      e1, e2, e3, e4, decide_true, hnext, hroom, e5, e6, hn2, if_true]
    cases hr : rightS l with
    | false => simp
    | true => by_cases hsp : Log.Span l < 1099511627776 <;> simp [hsp]

theorem undoRight_ok (x : Ty.Tup F_l11_UndoRight.ps) (h : OkL F_l11_UndoRight.ps x) : F_l11_UndoRight.sem x = some true :=
  undoRight_all x.1 x.2.1 x.2.2.1 x.2.2.2.1 x.2.2.2.2

end Go.Proofs.Ytklkpogdghiagaa
