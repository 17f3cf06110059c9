/- Layer 11: what New, Write, Next, Room, Back and Trim tell, of the program and of the reference. No condition. -/
import Derived.Test.YtklkpogdghiagaaP11
set_option linter.unusedSimpArgs false
set_option linter.unusedVariables false
namespace Go.Proofs.Ytklkpogdghiagaa
open Go.SX

def smallL (l : Log) : Prop := (Log.Mem l).length ≤ 1000 ∧ (Log.Lst l).length ≤ 1000

theorem rightS_facts {l : Log} (h : rightS l = true) : sizeS l ∧ ∀ i, i < (Log.Lst l).length → uok l i = true := by
  unfold rightS at h
  simp only [Bool.and_eq_true, decide_eq_true_eq] at h
  exact ⟨h.1, range_all.1 h.2⟩
theorem rightS_of {l : Log} (h : sizeS l) (h2 : ∀ i, i < (Log.Lst l).length → uok l i = true) : rightS l = true := by
  unfold rightS
  simp only [Bool.and_eq_true, decide_eq_true_eq]
  exact ⟨h, range_all.2 h2⟩

theorem copy_small {l : Log} (h : smallL l) : ((cloneO 4 (Log.Mem l)).bind fun v5 => (cloneO 24 (Log.Lst l)).bind fun v7 => some ((Log.Span l, v5, v7)) : Option (Int × (List Int) × (List Undo))) = some (Log.Span l, Log.Mem l, Log.Lst l) := by
  rw [cloneO_small (by have := h.1; omega) (by omega), Option.bind_some, cloneO_small (by have := h.2; omega) (by omega), Option.bind_some]

/-! ### New, Next, Room -/
def newS (n : Int) : Log × Int := if 1 ≤ n ∧ n ≤ 64 then (Log.mk (List.replicate n.toNat 0) 0 [], 0) else (Log.mk [] 0 [], 1)
theorem undo_New_eq (n : Int) : undo_New n = some (newS n) := by
  unfold undo_New newS
  by_cases h : 1 ≤ n ∧ n ≤ 64
  · obtain ⟨k, rfl⟩ : ∃ k : Nat, n = (k : Int) := ⟨n.toNat, by omega⟩
    have h1 : ¬ (k : Int) < 1 := by omega
    have h2 : ¬ (64 : Int) < (k : Int) := by omega
    rw [if_pos h]
    simp [h1, h2, repO_small (show k ≤ 1000000 by omega) (show 4 ≤ 10000 by omega)]
  · have hc : (decide (n < (1 : Int)) || decide ((64 : Int) < n)) = true := by simp; omega
    simp [hc, h]
theorem r11_New_eq (n : Int) : r11_New n = some (newS n) := undo_New_eq n
def nextS (l : Log) : Log × Int := if rightS l = true ∧ Log.Span l < 1099511627776 then (Log.mk (Log.Mem l) (Log.Span l + 1) (Log.Lst l), 0) else (l, 1)
theorem undo_Next_eq (l : Log) (h : smallL l) : undo_Next l = some (nextS l) := by
  unfold undo_Next nextS
  rw [undo_Right_eq l h.2]
  simp only [Option.bind_some, copy_small h]
  cases hr : rightS l with
  | false => simp
  | true =>
    have hz := (rightS_facts hr).1
    unfold sizeS at hz
    by_cases hs : Log.Span l < 1099511627776
    · have hw : w64 (Log.Span l + 1) = Log.Span l + 1 := w64_id (by omega) (by omega)
      simp [hs, hw]
    · simp [hs]
def roomS (l : Log) : Int := if rightS l = true then 256 - ((Log.Lst l).length : Int) else 0
theorem undo_Room_eq (l : Log) (h : smallL l) : undo_Room l = some (roomS l) := by
  unfold undo_Room roomS
  rw [undo_Right_eq l h.2]
  have := h.2
  have hw : w64 (256 - ((Log.Lst l).length : Int)) = 256 - ((Log.Lst l).length : Int) := w64_id (by omega) (by omega)
  cases rightS l <;> simp [hw]

/-! ### Write -/
def hasU (l : Log) (a : Int) : Bool := (Log.Lst l).any fun u => decide (Undo.Span u = Log.Span l) && decide (Undo.At u = a)
def memAt (l : Log) (a : Int) : Int := (Log.Mem l)[a.toNat]?.getD 0
def writeS (l : Log) (a w : Int) : Log × Int :=
  if rightS l = true ∧ 0 ≤ a ∧ a < ((Log.Mem l).length : Int) then
    if hasU l a = true then (Log.mk ((Log.Mem l).set a.toNat w) (Log.Span l) (Log.Lst l), 0)
    else if (Log.Lst l).length = 256 then (l, 6)
    else (Log.mk ((Log.Mem l).set a.toNat w) (Log.Span l) (Log.Lst l ++ [Undo.mk (Log.Span l) a (memAt l a)]), 0)
  else (l, 1)

theorem undo_Write_eq (l : Log) (h : smallL l) (a w : Int) : undo_Write l a w = some (writeS l a w) := by
  unfold undo_Write writeS
  rw [undo_Right_eq l h.2]
  simp only [Option.bind_some, copy_small h]
  by_cases hok : rightS l = true ∧ 0 ≤ a ∧ a < ((Log.Mem l).length : Int)
  · obtain ⟨hr, h0, ha⟩ := hok
    obtain ⟨k, rfl⟩ : ∃ k : Nat, a = (k : Int) := ⟨a.toNat, by omega⟩
    have hk : k < (Log.Mem l).length := by omega
    have hlen := h.2
    have hw : (if rightS l = true then if decide ((0 : Int) ≤ (k : Int)) = true then some (decide ((k : Int) < (List.length (Log.Mem l) : Int))) else some false else some false) = some true := by simp [hr, hk]
    rw [hw, if_pos (show rightS l = true ∧ 0 ≤ (k : Int) ∧ (k : Int) < ((Log.Mem l).length : Int) from ⟨hr, h0, ha⟩)]
    have lp := loop_index (f := undo_Write_L1 (k : Int) (Log.Span l) (Log.Lst l) (List.length (Log.Lst l) : Int)) (n := (Log.Lst l).length) (fun i => (i : Int)) (fun i => optT (fun u => !(decide (Undo.Span u = Log.Span l) && decide (Undo.At u = (k : Int)))) (Log.Lst l)[i]?) (e := .inl ()) (r := fun i => .inr (i : Int)) (fun i hi _ => by
      have hlt : (i : Int) < (List.length (Log.Lst l) : Int) := by omega
      unfold undo_Write_L1
      simp only [hlt, decide_true, if_true, idxO_in hi, getO_in hi, Option.bind_some, w64_succ (show i < 4611686018427387904 by omega), optT_in hi]
      cases (decide (Undo.Span (Log.Lst l)[i] = Log.Span l) && decide (Undo.At (Log.Lst l)[i] = (k : Int))) <;> rfl) (fun _ => by
      unfold undo_Write_L1
      simp)
    rw [show ((0 : Nat) : Int) = 0 from rfl] at lp
    have hm : memAt l (k : Int) = (Log.Mem l)[k] := by unfold memAt; simp [hk]
    have happ : appO 24 (Log.Lst l) ([Undo.mk (Log.Span l) (k : Int) (Log.Mem l)[k]] : List Undo) = some (Log.Lst l ++ [Undo.mk (Log.Span l) (k : Int) (Log.Mem l)[k]]) := appO_small (by simp; omega) (by omega)
    rcases lp with ⟨hall, hlp⟩ | ⟨i, hi, hbad, _, hlp⟩
    · have hno : hasU l (k : Int) = false := by
        unfold hasU
        rw [any_range, range_all.2 hall]
        rfl
      by_cases h256 : (Log.Lst l).length = 256
      · have h256' : ((Log.Lst l).length : Int) = 256 := by omega
        simp only [hlp, orExit_inl, Option.bind_some]
        simp [hno, h256]
      · have h256' : ¬ ((Log.Lst l).length : Int) = 256 := by omega
        simp [hlp, hno, h256, h256', idxO_in hk, getO_in hk, setO_in hk, happ, hm]
    · have hyes : hasU l (k : Int) = true := by
        unfold hasU
        rw [any_range]
        have : ((List.range (Log.Lst l).length).all fun i => optT (fun u => !(decide (Undo.Span u = Log.Span l) && decide (Undo.At u = (k : Int)))) (Log.Lst l)[i]?) = false := by
          rw [List.all_eq_false]
          exact ⟨i, List.mem_range.2 hi, by rw [hbad]; simp⟩
        rw [this]
        rfl
      simp [hlp, hyes, idxO_in hk, setO_in hk]
  · rw [if_neg hok]
    have hw : (if rightS l = true then if decide ((0 : Int) ≤ a) = true then some (decide (a < (List.length (Log.Mem l) : Int))) else some false else some false) = some false := by
      cases hr : rightS l with
      | false => simp
      | true =>
        by_cases h0 : 0 ≤ a
        · have : ¬ a < ((Log.Mem l).length : Int) := fun e => hok ⟨hr, h0, e⟩
          simp [h0]; omega
        · simp [h0]
    rw [hw]
    simp

theorem r11_Write_eq (l : Log) (h : smallL l) (a w : Int) : r11_Write l a w = some (writeS l a w) := by
  unfold r11_Write writeS
  rw [r11_Right_eq l h.2]
  simp only [Option.bind_some]
  by_cases hok : rightS l = true ∧ 0 ≤ a ∧ a < ((Log.Mem l).length : Int)
  · obtain ⟨hr, h0, ha⟩ := hok
    have hz := (rightS_facts hr).1
    unfold sizeS at hz
    obtain ⟨k, rfl⟩ : ∃ k : Nat, a = (k : Int) := ⟨a.toNat, by omega⟩
    have hk : k < (Log.Mem l).length := by omega
    have hlen := h.2
    have hmem := h.1
    have hw : (if (!rightS l) = true then some true else if decide ((k : Int) < (0 : Int)) = true then some true else some (decide ((List.length (Log.Mem l) : Int) ≤ (k : Int)))) = some false := by
      have : ¬ ((k : Int) < 0) := by omega
      simp [hr, this, hk]
    rw [hw, if_pos (show rightS l = true ∧ 0 ≤ (k : Int) ∧ (k : Int) < ((Log.Mem l).length : Int) from ⟨hr, h0, ha⟩)]
    have lp := loop_good (f := r11_Write_L1 l (k : Int)) (n := (Log.Lst l).length) (e := hasU l (k : Int)) (fun i => (((Log.Lst l).take i).any (fun u => decide (Undo.Span u = Log.Span l) && decide (Undo.At u = (k : Int))), (i : Int))) (fun i hi => by
      have hlt : (i : Int) < (List.length (Log.Lst l) : Int) := by omega
      unfold r11_Write_L1
      simp only [hlt, decide_true, if_true, getO_in hi, Option.bind_some, w64_succ (show i < 4611686018427387904 by omega), take_succ_get hi, List.any_append, List.any_cons, List.any_nil, Bool.or_false]
      cases ((Log.Lst l).take i).any (fun u => decide (Undo.Span u = Log.Span l) && decide (Undo.At u = (k : Int))) with
      | true => simp
      | false => by_cases e1 : Undo.Span (Log.Lst l)[i] = Log.Span l <;> simp [e1]) (by
      unfold r11_Write_L1
      simp [hasU])
    simp only [List.take_zero, List.any_nil] at lp
    rw [show ((0 : Nat) : Int) = 0 from rfl] at lp
    have hm : memAt l (k : Int) = (Log.Mem l)[k] := by unfold memAt; simp [hk]
    have hwith : ∀ m : List Int, m = Log.Mem l → r11_with m (k : Int) w = some (m.set k w) := fun m hm => by
      subst hm
      unfold r11_with
      rw [appO_small (by simp; omega) (by omega)]
      simp [idxO_in hk, setO_in hk]
    have e1 : appO 24 ([] : List Undo) (Log.Lst l) = some (Log.Lst l) := appO_small (by simp; omega) (by omega)
    have e2 : appO 24 (Log.Lst l) ([Undo.mk (Log.Span l) (k : Int) (Log.Mem l)[k]] : List Undo) = some (Log.Lst l ++ [Undo.mk (Log.Span l) (k : Int) (Log.Mem l)[k]]) := appO_small (by simp; omega) (by omega)
    cases hu : hasU l (k : Int) with
    | true =>
      rw [hu] at lp
      simp [lp, hwith _ rfl]
    | false =>
      rw [hu] at lp
      by_cases h256 : (Log.Lst l).length = 256
      · have h256' : (256 : Int) ≤ ((Log.Lst l).length : Int) := by omega
        simp only [lp, Option.bind_some]
        simp [h256]
      · have h256' : ¬ (256 : Int) ≤ ((Log.Lst l).length : Int) := by omega
        simp [lp, h256, h256', e1, e2, getO_in hk, hwith _ rfl, hm]
  · rw [if_neg hok]
    have hw : (if (!rightS l) = true then some true else if decide (a < (0 : Int)) = true then some true else some (decide ((List.length (Log.Mem l) : Int) ≤ a))) = some true := by
      cases hr : rightS l with
      | false => simp
      | true =>
        by_cases h0 : 0 ≤ a
        · have : ¬ a < ((Log.Mem l).length : Int) := fun e => hok ⟨hr, h0, e⟩
          have h1 : ¬ a < 0 := by omega
          simp [h1]; omega
        · have h1 : a < 0 := by omega
          simp [h1]
    rw [hw]
    simp

/-! ### Same -/
theorem r11_Same_refl (l : Log) (h : smallL l) : r11_Same l l = some true := by
  unfold r11_Same
  have h1 := h.1
  have h2 := h.2
  have lm := loop_good (f := r11_Same_L2 l l) (n := (Log.Mem l).length) (e := .inl ()) (fun i => (i : Int)) (fun i hi => by
    have hlt : (i : Int) < (List.length (Log.Mem l) : Int) := by omega
    unfold r11_Same_L2
    simp [hlt, getO_in hi, w64_succ (show i < 4611686018427387904 by omega)]) (by
    unfold r11_Same_L2
    simp)
  have ll := loop_good (f := r11_Same_L1 l l) (n := (Log.Lst l).length) (e := .inl ()) (fun i => (i : Int)) (fun i hi => by
    have hlt : (i : Int) < (List.length (Log.Lst l) : Int) := by omega
    unfold r11_Same_L1
    simp [hlt, getO_in hi, w64_succ (show i < 4611686018427387904 by omega)]) (by
    unfold r11_Same_L1
    simp)
  rw [show ((0 : Nat) : Int) = 0 from rfl] at lm ll
  simp [lm, ll]

end Go.Proofs.Ytklkpogdghiagaa
