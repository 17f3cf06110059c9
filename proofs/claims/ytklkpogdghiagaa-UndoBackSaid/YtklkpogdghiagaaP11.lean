/- Layer 11: what the functions tell, in plain words: right logs, New, Write, Next, Room. No condition. -/
import Derived.Test.YtklkpogdghiagaaPG
import Derived.Test.YtklkpogdghiagaaD111
set_option linter.unusedSimpArgs false
set_option linter.unusedVariables false
namespace Go.Proofs.Ytklkpogdghiagaa
open Go.SX

def decK : DecidableEq (List Int) := Ty.dec (.arr 2 (.int .i64))
def keyU (u : Undo) : List Int := [Undo.Span u, Undo.At u]
theorem keyU_eq {u v : Undo} : keyU u = keyU v ↔ Undo.Span u = Undo.Span v ∧ Undo.At u = Undo.At v := by simp [keyU]
def prevS (l : List Undo) : Nat → Int
  | 0 => 0
  | i + 1 => match l[i]? with | some u => Undo.Span u | none => 0
def seenU (l : List Undo) : Nat → List (List Int × Bool)
  | 0 => []
  | i + 1 => match l[i]? with | some u => mputT decK (keyU u) true (seenU l i) | none => seenU l i
/-- Is one the same as one ahead of it? -/
def dupU (l : List Undo) (i : Nat) (k : List Int) : Bool := (List.range i).any fun j => match l[j]? with | some v => decide (k = keyU v) | none => false
theorem seen_get (l : List Undo) (k : List Int) : ∀ i, mgetT decK false (seenU l i) k = dupU l i k
  | 0 => rfl
  | i + 1 => by
    have ih := seen_get l k i
    unfold dupU at ih ⊢
    rw [List.range_succ, List.any_append, ← ih]
    simp only [seenU]
    cases hx : l[i]? with
    | none => simp [hx]
    | some u =>
      simp only
      rw [mget_put]
      by_cases h : k = keyU u <;> simp [h, hx]
def uok (l : Log) (i : Nat) : Bool := match (Log.Lst l)[i]? with
  | none => true
  | some u => decide (prevS (Log.Lst l) i ≤ Undo.Span u ∧ Undo.Span u ≤ Log.Span l ∧ 0 ≤ Undo.At u ∧ Undo.At u < ((Log.Mem l).length : Int)) && !dupU (Log.Lst l) i (keyU u)
def sizeS (l : Log) : Prop := 1 ≤ (Log.Mem l).length ∧ (Log.Mem l).length ≤ 64 ∧ 0 ≤ Log.Span l ∧ Log.Span l ≤ 1099511627776 ∧ (Log.Lst l).length ≤ 256
instance (l : Log) : Decidable (sizeS l) := by unfold sizeS; infer_instance
def rightS (l : Log) : Bool := decide (sizeS l) && (List.range (Log.Lst l).length).all (uok l)

theorem uok_iff {l : Log} {i : Nat} (h : i < (Log.Lst l).length) : uok l i = true ↔ (prevS (Log.Lst l) i ≤ Undo.Span (Log.Lst l)[i] ∧ Undo.Span (Log.Lst l)[i] ≤ Log.Span l ∧ 0 ≤ Undo.At (Log.Lst l)[i] ∧ Undo.At (Log.Lst l)[i] < ((Log.Mem l).length : Int)) ∧ dupU (Log.Lst l) i (keyU (Log.Lst l)[i]) = false := by
  unfold uok
  rw [List.getElem?_eq_getElem h]
  simp

theorem undo_Right_eq (l : Log) (hl : (Log.Lst l).length ≤ 1000) : undo_Right l = some (rightS l) := by
  unfold undo_Right rightS
  by_cases hz : sizeS l
  · have hc : ((decide ((List.length (Log.Mem l) : Int) < (1 : Int))) || ((decide ((64 : Int) < (List.length (Log.Mem l) : Int))) || ((!(undo_span (Log.Span l) (1099511627776 : Int))) || (decide ((256 : Int) < (List.length (Log.Lst l) : Int)))))) = false := by
      obtain ⟨h1, h2, h3, h4, h5⟩ := hz
      simp [undo_span]
      omega
    rw [hc]
    simp only [Bool.false_eq_true, if_false, decide_eq_true hz, Bool.true_and]
    have h := check_all (f := undo_Right_L1 l (Log.Lst l) (List.length (Log.Lst l) : Int)) (n := (Log.Lst l).length) (fun i => (prevS (Log.Lst l) i, (i : Int), seenU (Log.Lst l) i)) (uok l) (g := fun _ => some true) (fun i hi _ => by
      have hlt : (i : Int) < (List.length (Log.Lst l) : Int) := by omega
      unfold undo_Right_L1
      simp only [hlt, decide_true, if_true, getO_in hi, Option.bind_some, w64_succ (show i < 4611686018427387904 by omega)]
      have hs : mgetT (Ty.dec (.arr 2 (.int .i64))) false (seenU (Log.Lst l) i) ([Undo.Span (Log.Lst l)[i], Undo.At (Log.Lst l)[i]] : List Int) = dupU (Log.Lst l) i [Undo.Span (Log.Lst l)[i], Undo.At (Log.Lst l)[i]] := seen_get (Log.Lst l) (keyU (Log.Lst l)[i]) i
      rw [hs]
      have e1 : prevS (Log.Lst l) (i + 1) = Undo.Span (Log.Lst l)[i] := by simp only [prevS, List.getElem?_eq_getElem hi]
      have e2 : seenU (Log.Lst l) (i + 1) = mputT (Ty.dec (.arr 2 (.int .i64))) [Undo.Span (Log.Lst l)[i], Undo.At (Log.Lst l)[i]] true (seenU (Log.Lst l) i) := by simp only [seenU, List.getElem?_eq_getElem hi]; rfl
      rw [e1, e2]
      by_cases hu : uok l i = true
      · have hu' := (uok_iff hi).1 hu
        unfold keyU at hu'
        obtain ⟨⟨g1, g2, g3, g4⟩, g5⟩ := hu'
        rw [if_pos hu, g5]
        have c : ((decide (Undo.Span (Log.Lst l)[i] < prevS (Log.Lst l) i)) || ((decide ((Log.Span l) < (Undo.Span (Log.Lst l)[i]))) || ((decide ((Undo.At (Log.Lst l)[i]) < (0 : Int))) || ((decide ((List.length (Log.Mem l) : Int) ≤ (Undo.At (Log.Lst l)[i]))) || false)))) = false := by
          simp; omega
        rw [c]
        rfl
      · rw [if_neg hu]
        have c : ((decide (Undo.Span (Log.Lst l)[i] < prevS (Log.Lst l) i)) || ((decide ((Log.Span l) < (Undo.Span (Log.Lst l)[i]))) || ((decide ((Undo.At (Log.Lst l)[i]) < (0 : Int))) || ((decide ((List.length (Log.Mem l) : Int) ≤ (Undo.At (Log.Lst l)[i]))) || (dupU (Log.Lst l) i [Undo.Span (Log.Lst l)[i], Undo.At (Log.Lst l)[i]]))))) = true := by
          cases hd : dupU (Log.Lst l) i [Undo.Span (Log.Lst l)[i], Undo.At (Log.Lst l)[i]] with
          | true => simp
          | false =>
            have hu2 : ¬ (prevS (Log.Lst l) i ≤ Undo.Span (Log.Lst l)[i] ∧ Undo.Span (Log.Lst l)[i] ≤ Log.Span l ∧ 0 ≤ Undo.At (Log.Lst l)[i] ∧ Undo.At (Log.Lst l)[i] < ((Log.Mem l).length : Int)) := fun hh => hu ((uok_iff hi).2 ⟨hh, hd⟩)
            simp; omega
        rw [c]
        rfl) (fun _ => by
      unfold undo_Right_L1
      simp)
    refine Eq.trans h ?_
    split
    · rename_i h; rw [h]
    · rename_i h; rw [Bool.not_eq_true] at h; rw [h]
  · have hc : ((decide ((List.length (Log.Mem l) : Int) < (1 : Int))) || ((decide ((64 : Int) < (List.length (Log.Mem l) : Int))) || ((!(undo_span (Log.Span l) (1099511627776 : Int))) || (decide ((256 : Int) < (List.length (Log.Lst l) : Int)))))) = true := by
      unfold sizeS at hz
      simp [undo_span]
      omega
    rw [hc]
    simp [hz]

theorem prev_pos {l : Log} : ∀ {i : Nat}, i ≤ (Log.Lst l).length → (∀ j, j < i → uok l j = true) → 0 ≤ prevS (Log.Lst l) i
  | 0, _, _ => Int.le_refl 0
  | i + 1, hi, h => by
    have h1 := prev_pos (l := l) (i := i) (by omega) fun j hj => h j (by omega)
    have h2 := ((uok_iff (show i < (Log.Lst l).length by omega)).1 (h i (by omega))).1.1
    simp only [prevS, List.getElem?_eq_getElem (show i < (Log.Lst l).length by omega)]
    omega

theorem r11_Right_eq (l : Log) (hl : (Log.Lst l).length ≤ 1000) : r11_Right l = some (rightS l) := by
  unfold r11_Right rightS
  by_cases hz : sizeS l
  · have hc : ((decide ((List.length (Log.Mem l) : Int) = (0 : Int))) || ((decide ((64 : Int) < (List.length (Log.Mem l) : Int))) || ((decide ((Log.Span l) < (0 : Int))) || ((decide ((1099511627776 : Int) < (Log.Span l))) || (decide ((256 : Int) < (List.length (Log.Lst l) : Int))))))) = false := by
      obtain ⟨h1, h2, h3, h4, h5⟩ := hz
      simp
      refine ⟨fun e => ?_, by omega, by omega, by omega, by omega⟩
      rw [e] at h1
      simp at h1
    rw [hc]
    simp only [Bool.false_eq_true, if_false, decide_eq_true hz, Bool.true_and]
    have h := check_all (f := r11_Right_L2 l) (n := (Log.Lst l).length) (fun i => (i : Int)) (uok l) (g := fun _ => some true) (fun i hi hpre => by
      have hlt : (i : Int) < (List.length (Log.Lst l) : Int) := by omega
      have hp := prev_pos (show i ≤ (Log.Lst l).length by omega) hpre
      unfold r11_Right_L2
      simp only [hlt, decide_true, if_true, getO_in hi, Option.bind_some, w64_succ (show i < 4611686018427387904 by omega)]
      have inner : loopD (r11_Right_L1 l (i : Int) (Log.Lst l)[i]) 0 = some (if dupU (Log.Lst l) i (keyU (Log.Lst l)[i]) = false then .inl () else .inr (.inr (.inr false))) := by
        have h := loop_check (f := r11_Right_L1 l (i : Int) (Log.Lst l)[i]) (n := i) (fun j => (j : Int)) (fun j => match (Log.Lst l)[j]? with | some v => !decide (keyU (Log.Lst l)[i] = keyU v) | none => true) (e := .inl ()) (r := .inr (.inr (.inr false))) (fun j hj _ => by
          have hjl : j < (Log.Lst l).length := by omega
          have hlt : (j : Int) < (i : Int) := by omega
          unfold r11_Right_L1
          simp only [hlt, decide_true, if_true, getO_in hjl, Option.bind_some, w64_succ (show j < 4611686018427387904 by omega), List.getElem?_eq_getElem hjl]
          by_cases h1 : Undo.Span (Log.Lst l)[j] = Undo.Span (Log.Lst l)[i] <;> by_cases h2 : Undo.At (Log.Lst l)[j] = Undo.At (Log.Lst l)[i] <;> simp [keyU, h1, h2, eq_comm (a := Undo.Span (Log.Lst l)[i]), eq_comm (a := Undo.At (Log.Lst l)[i])]) (fun _ => by
          unfold r11_Right_L1
          simp)
        rw [show ((0 : Nat) : Int) = 0 from rfl] at h
        rw [h]
        congr 1
        have : ((List.range i).all fun j => match (Log.Lst l)[j]? with | some v => !decide (keyU (Log.Lst l)[i] = keyU v) | none => true) = !dupU (Log.Lst l) i (keyU (Log.Lst l)[i]) := by
          unfold dupU
          rw [List.not_any_eq_all_not]
          congr 1
          funext j
          cases (Log.Lst l)[j]? <;> rfl
        rw [this]
        cases dupU (Log.Lst l) i (keyU (Log.Lst l)[i]) <;> rfl
      rw [inner]
      have hprev : (if decide ((0 : Int) < (i : Int)) = true then
                (getO (Log.Lst l) (w64 ((i : Int) - (1 : Int)))).bind fun v23 =>
                some ((decide ((Undo.Span (Log.Lst l)[i]) < (Undo.Span v23))))
              else
                some (false) : Option Bool) = some (if 0 < i then decide (Undo.Span (Log.Lst l)[i] < prevS (Log.Lst l) i) else false) := by
        cases i with
        | zero => simp
        | succ k =>
          have hkl : k < (Log.Lst l).length := by omega
          have e : w64 (((k + 1 : Nat) : Int) - 1) = (k : Int) := by rw [w64_id (by omega) (by omega)]; omega
          have h0 : (0 : Int) < ((k + 1 : Nat) : Int) := by omega
          simp only [h0, decide_true, if_true, e, getO_in hkl, Option.bind_some, prevS, List.getElem?_eq_getElem hkl, Nat.zero_lt_succ]
      rw [hprev]
      by_cases g1 : prevS (Log.Lst l) i ≤ Undo.Span (Log.Lst l)[i]
      · have n1 : ¬ Undo.Span (Log.Lst l)[i] < 0 := by omega
        have n2 : (if 0 < i then decide (Undo.Span (Log.Lst l)[i] < prevS (Log.Lst l) i) else false) = false := by
          split
          · simp; omega
          · rfl
        by_cases g2 : Undo.Span (Log.Lst l)[i] ≤ Log.Span l
        · have n3 : ¬ Log.Span l < Undo.Span (Log.Lst l)[i] := by omega
          by_cases g3 : 0 ≤ Undo.At (Log.Lst l)[i]
          · have n4 : ¬ Undo.At (Log.Lst l)[i] < 0 := by omega
            by_cases g4 : Undo.At (Log.Lst l)[i] < ((Log.Mem l).length : Int)
            · have n5 : ¬ ((Log.Mem l).length : Int) ≤ Undo.At (Log.Lst l)[i] := by omega
              cases hd : dupU (Log.Lst l) i (keyU (Log.Lst l)[i]) with
              | true =>
                have hu : uok l i = false := by
                  rw [Bool.eq_false_iff]
                  intro hu
                  have := ((uok_iff hi).1 hu).2
                  rw [hd] at this
                  cases this
                simp [n1, n2, n3, n4, n5, hu]
              | false =>
                have hu : uok l i = true := (uok_iff hi).2 ⟨⟨g1, g2, g3, g4⟩, hd⟩
                simp [n1, n2, n3, n4, n5, hu]
            · have hu : uok l i = false := by
                rw [Bool.eq_false_iff]
                intro hu
                exact g4 ((uok_iff hi).1 hu).1.2.2.2
              have n5 : ((Log.Mem l).length : Int) ≤ Undo.At (Log.Lst l)[i] := by omega
              simp [n1, n3, n4, n5, hu]
          · have hu : uok l i = false := by
              rw [Bool.eq_false_iff]
              intro hu
              exact g3 ((uok_iff hi).1 hu).1.2.2.1
            have n4 : Undo.At (Log.Lst l)[i] < 0 := by omega
            simp [n1, n3, n4, hu]
        · have hu : uok l i = false := by
            rw [Bool.eq_false_iff]
            intro hu
            exact g2 ((uok_iff hi).1 hu).1.2.1
          have n3 : Log.Span l < Undo.Span (Log.Lst l)[i] := by omega
          simp [n1, n3, hu]
      · have hu : uok l i = false := by
          rw [Bool.eq_false_iff]
          intro hu
          exact g1 ((uok_iff hi).1 hu).1.1
        have n2 : Undo.Span (Log.Lst l)[i] < 0 ∨ (if 0 < i then decide (Undo.Span (Log.Lst l)[i] < prevS (Log.Lst l) i) else false) = true := by
          cases i with
          | zero => left; simp [prevS] at g1; omega
          | succ k => right; simp; omega
        rw [hu]
        rcases n2 with n2 | n2
        · simp [n2]
        · rw [n2]
          by_cases a1 : Undo.Span (Log.Lst l)[i] < 0 <;> by_cases a2 : Log.Span l < Undo.Span (Log.Lst l)[i] <;> by_cases a3 : Undo.At (Log.Lst l)[i] < 0 <;> by_cases a4 : ((Log.Mem l).length : Int) ≤ Undo.At (Log.Lst l)[i] <;> simp [a1, a2, a3, a4]) (fun _ => by
      unfold r11_Right_L2
      simp)
    refine Eq.trans h ?_
    split
    · rename_i h; rw [h]
    · rename_i h; rw [Bool.not_eq_true] at h; rw [h]
  · have hc : ((decide ((List.length (Log.Mem l) : Int) = (0 : Int))) || ((decide ((64 : Int) < (List.length (Log.Mem l) : Int))) || ((decide ((Log.Span l) < (0 : Int))) || ((decide ((1099511627776 : Int) < (Log.Span l))) || (decide ((256 : Int) < (List.length (Log.Lst l) : Int))))))) = true := by
      unfold sizeS at hz
      simp only [Bool.or_eq_true, decide_eq_true_eq]
      omega
    rw [hc]
    simp [hz]

end Go.Proofs.Ytklkpogdghiagaa
