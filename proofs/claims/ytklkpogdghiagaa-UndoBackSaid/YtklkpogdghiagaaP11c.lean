/- Layer 11: what Back and Trim tell, of the program and of the reference. No condition. -/
import Derived.Test.YtklkpogdghiagaaP11b
set_option linter.unusedSimpArgs false
set_option linter.unusedVariables false
namespace Go.Proofs.Ytklkpogdghiagaa
open Go.SX

/-! ### Logs lie in order -/
theorem spans_le {l : Log} (h : ∀ i, i < (Log.Lst l).length → uok l i = true) : ∀ (j : Nat) (hj : j < (Log.Lst l).length) (i : Nat) (hi : i < j), Undo.Span (Log.Lst l)[i] ≤ Undo.Span (Log.Lst l)[j]
  | 0, _, i, hi => by omega
  | j + 1, hj, i, hi => by
    have h1 := ((uok_iff hj).1 (h (j + 1) hj)).1.1
    simp only [prevS, List.getElem?_eq_getElem (show j < (Log.Lst l).length by omega)] at h1
    rcases Nat.lt_or_ge i j with h2 | h2
    · have := spans_le h j (by omega) i h2
      omega
    · have : i = j := by omega
      subst this
      exact h1
def goes (to : Int) (u : Undo) : Bool := decide (to ≤ Undo.Span u)
def stays (to : Int) (u : Undo) : Bool := decide (Undo.Span u < to)
theorem split_sorted (to : Int) : ∀ l : List Undo, l.Pairwise (fun a b => Undo.Span a ≤ Undo.Span b) → l = l.filter (stays to) ++ l.filter (goes to)
  | [], _ => rfl
  | x :: l, h => by
    have hp := List.pairwise_cons.1 h
    have ih := split_sorted to l hp.2
    by_cases hx : Undo.Span x < to
    · have h1 : stays to x = true := by simp [stays, hx]
      have h2 : goes to x = false := by simp [goes]; omega
      rw [List.filter_cons, if_pos h1, List.filter_cons, h2]
      simpa using ih
    · have h1 : ∀ y ∈ x :: l, stays to y = false := fun y hy => by
        rcases List.mem_cons.1 hy with e | hy
        · subst e; simp [stays]; omega
        · have := hp.1 y hy
          simp [stays]; omega
      have h2 : ∀ y ∈ x :: l, goes to y = true := fun y hy => by
        have := h1 y hy
        simp [stays] at this
        simp [goes, this]
      rw [List.filter_eq_nil_iff.2 (fun y hy => by rw [h1 y hy]; simp), List.filter_eq_self.2 h2]
      rfl
theorem log_split {l : Log} (h : rightS l = true) (to : Int) : Log.Lst l = (Log.Lst l).filter (stays to) ++ (Log.Lst l).filter (goes to) := by
  refine split_sorted to _ ?_
  rw [List.pairwise_iff_getElem]
  intro i j hi hj hij
  exact spans_le (rightS_facts h).2 j hj i hij

/-! ### Back -/
def putB (u : Undo) (m : List Int) : List Int := m.set (Undo.At u).toNat (Undo.Val u)
theorem foldB_len (mem : List Int) : ∀ B : List Undo, (B.foldr putB mem).length = mem.length
  | [] => rfl
  | u :: B => by simp [putB, foldB_len mem B]
def restore (l : Log) (to : Int) : List Int := ((Log.Lst l).filter (goes to)).foldr putB (Log.Mem l)
def backS (l : Log) (to : Int) : Log × Int := if rightS l = true ∧ 0 ≤ to ∧ to ≤ Log.Span l then (Log.mk (restore l to) to ((Log.Lst l).filter (stays to)), 0) else (l, 1)

theorem at_in {l : Log} (h : rightS l = true) {u : Undo} (hu : u ∈ Log.Lst l) : 0 ≤ Undo.At u ∧ Undo.At u < ((Log.Mem l).length : Int) := by
  obtain ⟨i, hi, rfl⟩ := List.getElem_of_mem hu
  have := ((uok_iff hi).1 ((rightS_facts h).2 i hi)).1
  exact ⟨this.2.2.1, this.2.2.2⟩

theorem undo_Back_eq (l : Log) (h : smallL l) (to : Int) : undo_Back l to = some (backS l to) := by
  unfold undo_Back backS
  rw [undo_Right_eq l h.2]
  simp only [Option.bind_some, copy_small h]
  by_cases hok : rightS l = true ∧ 0 ≤ to ∧ to ≤ Log.Span l
  · obtain ⟨hr, h0, ha⟩ := hok
    have hw : (if rightS l = true then some (undo_span to (Log.Span l)) else some false) = some true := by simp [hr, undo_span, h0, ha]
    rw [hw, if_pos (show rightS l = true ∧ 0 ≤ to ∧ to ≤ Log.Span l from ⟨hr, h0, ha⟩)]
    have hsp := log_split hr to
    have hsz := (rightS_facts hr).1
    unfold sizeS at hsz
    generalize hA : (Log.Lst l).filter (stays to) = A at hsp
    generalize hB : (Log.Lst l).filter (goes to) = B at hsp
    have hmemB : ∀ u ∈ B, 0 ≤ Undo.At u ∧ Undo.At u < ((Log.Mem l).length : Int) := fun u hu => at_in hr (by rw [hsp]; exact List.mem_append_right _ hu)
    have hgo : ∀ u ∈ B, to ≤ Undo.Span u := fun u hu => by
      rw [← hB] at hu
      have := (List.mem_filter.1 hu).2
      simpa [goes] using this
    have hst : ∀ u ∈ A, Undo.Span u < to := fun u hu => by
      rw [← hA] at hu
      have := (List.mem_filter.1 hu).2
      simpa [stays] using this
    have hlen : (Log.Lst l).length = A.length + B.length := by rw [hsp, List.length_append]
    have hl2 := h.2
    have lp := loop_good (f := undo_Back_L1 to (Log.Lst l)) (n := B.length) (e := ((A.length : Int), restore l to)) (fun j => ((((A.length + B.length - j : Nat)) : Int), (((A.length + B.length - j : Nat)) : Int), (B.drop (B.length - j)).foldr putB (Log.Mem l))) (fun j hj => by
      have hib : B.length - j - 1 < B.length := by omega
      have hil : A.length + B.length - j - 1 < (Log.Lst l).length := by omega
      have hpos : (0 : Int) < ((A.length + B.length - j : Nat) : Int) := by omega
      have hw : w64 (((A.length + B.length - j : Nat) : Int) - 1) = ((A.length + B.length - j - 1 : Nat) : Int) := by rw [w64_id (by omega) (by omega)]; omega
      have hix : idxvO 0 ((A.length + B.length - j : Nat) : Int) ((A.length + B.length - j - 1 : Nat) : Int) = some ((A.length + B.length - j - 1 : Nat) : Int) := by
        unfold idxvO
        rw [if_pos (by omega), Int.zero_add]
      have hrv : rngvO (List.length (Log.Lst l) : Int) 0 0 ((A.length + B.length - j - 1 : Nat) : Int) = some ((A.length + B.length - j - 1 : Nat) : Int) := by
        unfold rngvO
        rw [if_pos (by omega), Int.zero_add]
      have hx : (Log.Lst l)[A.length + B.length - j - 1] = B[B.length - j - 1] := by
        have e : (Log.Lst l)[A.length + B.length - j - 1]? = (A ++ B)[A.length + B.length - j - 1]? := by rw [← hsp]
        rw [List.getElem?_append_right (by omega), show A.length + B.length - j - 1 - A.length = B.length - j - 1 by omega, List.getElem?_eq_getElem hil, List.getElem?_eq_getElem hib] at e
        exact Option.some.inj e
      have hmb := hmemB _ (List.getElem_mem hib)
      have hgb := hgo _ (List.getElem_mem hib)
      have hfl := foldB_len (Log.Mem l) (B.drop (B.length - j))
      have hidx : idxO (List.length ((B.drop (B.length - j)).foldr putB (Log.Mem l)) : Int) (Undo.At B[B.length - j - 1]) = some (Undo.At B[B.length - j - 1]) := idxO_lt hmb.1 (by rw [hfl]; exact hmb.2)
      have hset : setO ((B.drop (B.length - j)).foldr putB (Log.Mem l)) (Undo.At B[B.length - j - 1]) (Undo.Val B[B.length - j - 1]) = some (putB B[B.length - j - 1] ((B.drop (B.length - j)).foldr putB (Log.Mem l))) := setO_lt hmb.1 (by rw [hfl]; exact hmb.2)
      have hdrop : B.drop (B.length - (j + 1)) = B[B.length - j - 1] :: B.drop (B.length - j) := by
        rw [show B.length - (j + 1) = B.length - j - 1 by omega, List.drop_eq_getElem_cons hib, show B.length - j - 1 + 1 = B.length - j by omega]
      unfold undo_Back_L1
      simp only [hpos, decide_true, if_true, hw, hix, getO_in hil, hx, Option.bind_some, hgb, hrv, hidx, hset]
      rw [hdrop, List.foldr_cons, show A.length + B.length - (j + 1) = A.length + B.length - j - 1 by omega]) (by
      have hd0 : B.drop (B.length - B.length) = B := by rw [Nat.sub_self, List.drop_zero]
      rw [show A.length + B.length - B.length = A.length by omega]
      unfold undo_Back_L1
      rw [hd0]
      have hres : restore l to = B.foldr putB (Log.Mem l) := by unfold restore; rw [hB]
      rw [hres]
      rcases Nat.eq_zero_or_pos A.length with ha0 | ha0
      · simp [ha0]
      · have hil : A.length - 1 < (Log.Lst l).length := by omega
        have hpos : (0 : Int) < (A.length : Int) := by omega
        have hw : w64 ((A.length : Int) - 1) = ((A.length - 1 : Nat) : Int) := by rw [w64_id (by omega) (by omega)]; omega
        have hix : idxvO 0 (A.length : Int) ((A.length - 1 : Nat) : Int) = some ((A.length - 1 : Nat) : Int) := by
          unfold idxvO
          rw [if_pos (by omega), Int.zero_add]
        have hx : (Log.Lst l)[A.length - 1] = A[A.length - 1] := by
          have e : (Log.Lst l)[A.length - 1]? = (A ++ B)[A.length - 1]? := by rw [← hsp]
          rw [List.getElem?_append_left (by omega), List.getElem?_eq_getElem hil, List.getElem?_eq_getElem (show A.length - 1 < A.length by omega)] at e
          exact Option.some.inj e
        have hsa := hst _ (List.getElem_mem (show A.length - 1 < A.length by omega))
        have hna : ¬ to ≤ Undo.Span A[A.length - 1] := by omega
        simp only [hpos, decide_true, if_true, hw, hix, getO_in hil, hx, Option.bind_some, hna, decide_false, Bool.false_eq_true, if_false])
    have h00 : B.drop (B.length - 0) = [] := by rw [Nat.sub_zero, List.drop_length]
    rw [h00, Nat.sub_zero, ← hlen] at lp
    simp only [List.foldr_nil] at lp
    have hsub : subO (Log.Lst l) (0 : Int) (A.length : Int) = some A := by
      have := subO_in (l := Log.Lst l) (i := 0) (j := A.length) (by omega) (by omega)
      rw [List.drop_zero] at this
      refine Eq.trans this ?_
      rw [hsp, List.take_left']
      rfl
    simp [lp, hsub]
  · rw [if_neg hok]
    have hw : (if rightS l = true then some (undo_span to (Log.Span l)) else some false) = some false := by
      cases hr : rightS l with
      | false => simp
      | true =>
        simp only [undo_span, if_true]
        congr 1
        rw [Bool.and_eq_false_iff, decide_eq_false_iff_not, decide_eq_false_iff_not]
        by_cases h0 : 0 ≤ to
        · right; intro e; exact hok ⟨hr, h0, e⟩
        · left; exact h0
    rw [hw]
    simp

/-- The eldest of those that go and speak of a place. -/
def eldest (l : Log) (to : Int) (a : Nat) : Option Undo := (Log.Lst l).find? fun u => goes to u && decide (Undo.At u = (a : Int))
def setE (m : List Int) (a : Nat) : Option Undo → List Int | some u => m.set a (Undo.Val u) | none => m
def memR (l : Log) (to : Int) : Nat → List Int
  | 0 => Log.Mem l
  | a + 1 => setE (memR l to a) a (eldest l to a)
theorem memR_len (l : Log) (to : Int) : ∀ a, (memR l to a).length = (Log.Mem l).length
  | 0 => rfl
  | a + 1 => by
    simp only [memR]
    cases eldest l to a <;> simp [setE, memR_len l to a]
theorem memR_get (l : Log) (to : Int) (i : Nat) (hi : i < (Log.Mem l).length) : ∀ k, (memR l to k)[i]? = if i < k then (match eldest l to i with | some u => some (Undo.Val u) | none => (Log.Mem l)[i]?) else (Log.Mem l)[i]?
  | 0 => by simp [memR]
  | k + 1 => by
    have ih := memR_get l to i hi k
    have hlk := memR_len l to k
    simp only [memR]
    by_cases hik : i = k
    · subst hik
      rw [if_pos (by omega)]
      rw [if_neg (by omega)] at ih
      cases eldest l to i with
      | none => simpa [setE] using ih
      | some u => simp [setE, hlk, hi]
    · have h2 : (setE (memR l to k) k (eldest l to k))[i]? = (memR l to k)[i]? := by
        cases eldest l to k with
        | none => rfl
        | some u => simp [setE, List.getElem?_set_ne (Ne.symm hik)]
      rw [h2, ih]
      by_cases h3 : i < k
      · rw [if_pos h3, if_pos (by omega)]
      · rw [if_neg h3, if_neg (by omega)]
theorem foldB_get (mem : List Int) (i : Nat) (hi : i < mem.length) : ∀ B : List Undo, (∀ u ∈ B, 0 ≤ Undo.At u) → (B.foldr putB mem)[i]? = match B.find? (fun u => decide (Undo.At u = (i : Int))) with | some u => some (Undo.Val u) | none => mem[i]?
  | [], _ => rfl
  | u :: B, h => by
    have ih := foldB_get mem i hi B fun v hv => h v (List.mem_cons_of_mem _ hv)
    have hu := h u List.mem_cons_self
    have hl := foldB_len mem B
    rw [List.foldr_cons, List.find?_cons]
    unfold putB
    by_cases he : Undo.At u = (i : Int)
    · have : (Undo.At u).toNat = i := by omega
      simp [he, hl, hi]
      rw [List.getElem?_set_self (by rw [show B.foldr (fun u m => m.set (Undo.At u).toNat (Undo.Val u)) mem = B.foldr putB mem from rfl, hl]; exact hi)]
    · have hne : ¬ (Undo.At u).toNat = i := by omega
      simp only [he, decide_false]
      rw [List.getElem?_set_ne hne]
      exact ih
theorem restore_eq {l : Log} (h : rightS l = true) (to : Int) : memR l to (Log.Mem l).length = restore l to := by
  refine List.ext_getElem? fun i => ?_
  rcases Nat.lt_or_ge i (Log.Mem l).length with hi | hi
  · rw [memR_get l to i hi, if_pos hi]
    unfold restore
    rw [foldB_get _ i hi _ fun u hu => (at_in h (List.mem_filter.1 hu).1).1, List.find?_filter]
    have : eldest l to i = List.find? (fun a => decide (goes to a = true ∧ decide (Undo.At a = (i : Int)) = true)) (Log.Lst l) := by
      unfold eldest
      congr 1
      funext u
      simp
    rw [this]
  · rw [List.getElem?_eq_none (by rw [memR_len]; exact hi), List.getElem?_eq_none (by unfold restore; rw [foldB_len]; exact hi)]

theorem r11_Back_eq (l : Log) (h : smallL l) (to : Int) : r11_Back l to = some (backS l to) := by
  unfold r11_Back backS
  rw [r11_Right_eq l h.2]
  simp only [Option.bind_some]
  by_cases hok : rightS l = true ∧ 0 ≤ to ∧ to ≤ Log.Span l
  · obtain ⟨hr, h0, ha⟩ := hok
    have hw : (if (!rightS l) = true then some true else if decide (to < (0 : Int)) = true then some true else some (decide (Log.Span l < to))) = some false := by
      have e1 : ¬ to < 0 := by omega
      have e2 : ¬ Log.Span l < to := by omega
      simp [hr, e1, e2]
    rw [hw, if_pos (show rightS l = true ∧ 0 ≤ to ∧ to ≤ Log.Span l from ⟨hr, h0, ha⟩)]
    have hl1 := h.1
    have hl2 := h.2
    have inner : ∀ (a : Nat) (m : List Int), m.length = (Log.Mem l).length → a < (Log.Mem l).length → loopD (r11_Back_L2 l to (a : Int)) (false, (0 : Int), m) = some (setE m a (eldest l to a)) := fun a m hm haa => by
      have lp := loop_good (f := r11_Back_L2 l to (a : Int)) (n := (Log.Lst l).length) (e := setE m a (eldest l to a)) (fun i => (((((Log.Lst l).take i).find? fun u => goes to u && decide (Undo.At u = (a : Int)))).isSome, (i : Int), setE m a (((Log.Lst l).take i).find? fun u => goes to u && decide (Undo.At u = (a : Int))))) (fun i hi => by
        have hlt : (i : Int) < (List.length (Log.Lst l) : Int) := by omega
        unfold r11_Back_L2
        simp only [hlt, decide_true, if_true, getO_in hi, Option.bind_some, w64_succ (show i < 4611686018427387904 by omega), take_succ_get hi, List.find?_append]
        have hml : ∀ o, (setE m a o).length = (Log.Mem l).length := fun o => by cases o <;> simp [setE, hm]
        cases hf : ((Log.Lst l).take i).find? fun u => goes to u && decide (Undo.At u = (a : Int)) with
        | some u =>
          by_cases e1 : to ≤ Undo.Span (Log.Lst l)[i] <;> by_cases e2 : Undo.At (Log.Lst l)[i] = (a : Int) <;> simp [e1, e2]
        | none =>
          have hma : a < m.length := by omega
          by_cases e1 : to ≤ Undo.Span (Log.Lst l)[i]
          · by_cases e2 : Undo.At (Log.Lst l)[i] = (a : Int)
            · simp [e1, e2, setE, goes, idxO_in hma, setO_in hma]
            · simp [e1, e2, setE, goes]
          · simp [e1, setE, goes]) (by
        unfold r11_Back_L2
        simp [eldest])
      exact lp
    have outer := loop_good (f := r11_Back_L3 l to) (n := (Log.Mem l).length) (e := memR l to (Log.Mem l).length) (fun a => ((a : Int), memR l to a)) (fun a haa => by
      have hml := memR_len l to a
      have hlt : (a : Int) < ((memR l to a).length : Int) := by omega
      unfold r11_Back_L3
      simp only [hlt, decide_true, if_true, inner a _ hml haa, Option.bind_some, w64_succ (show a < 4611686018427387904 by omega)]
      rfl) (by
      have hml := memR_len l to (Log.Mem l).length
      unfold r11_Back_L3
      simp [hml])
    have rest := loop_good (f := r11_Back_L1 l to) (n := (Log.Lst l).length) (e := (Log.Lst l).filter (stays to)) (fun i => ((i : Int), ((Log.Lst l).take i).filter (stays to))) (fun i hi => by
      have hlt : (i : Int) < (List.length (Log.Lst l) : Int) := by omega
      have hfl : (((Log.Lst l).take i).filter (stays to)).length ≤ 1000 := by
        have h1 := List.length_filter_le (stays to) ((Log.Lst l).take i)
        have h2 := List.length_take_le i (Log.Lst l)
        omega
      have happ : appO 24 (((Log.Lst l).take i).filter (stays to)) ([(Log.Lst l)[i]] : List Undo) = some (((Log.Lst l).take i).filter (stays to) ++ [(Log.Lst l)[i]]) := appO_small (by simp; omega) (by omega)
      unfold r11_Back_L1
      simp only [hlt, decide_true, if_true, getO_in hi, Option.bind_some, w64_succ (show i < 4611686018427387904 by omega), take_succ_get hi, List.filter_append, happ]
      by_cases e1 : Undo.Span (Log.Lst l)[i] < to <;> simp [e1, stays]) (by
      unfold r11_Back_L1
      simp)
    have happ : appO 4 ([] : List Int) (Log.Mem l) = some (Log.Mem l) := appO_small (by simp; omega) (by omega)
    have e0 : memR l to 0 = Log.Mem l := rfl
    rw [e0] at outer
    simp only [List.take_zero, List.filter_nil] at rest
    rw [show ((0 : Nat) : Int) = 0 from rfl] at outer rest
    simp [happ, outer, rest, restore_eq hr]
  · rw [if_neg hok]
    have hw : (if (!rightS l) = true then some true else if decide (to < (0 : Int)) = true then some true else some (decide (Log.Span l < to))) = some true := by
      cases hr : rightS l with
      | false => simp
      | true =>
        by_cases h0 : 0 ≤ to
        · have e1 : ¬ to < 0 := by omega
          have e2 : Log.Span l < to := by
            rcases Int.lt_or_le (Log.Span l) to with h | h
            · exact h
            · exact absurd ⟨hr, h0, h⟩ hok
          simp [e1, e2]
        · have e1 : to < 0 := by omega
          simp [e1]
    rw [hw]
    simp

/-! ### Trim -/
def trimS (l : Log) (fr : Int) : Log × Int := if rightS l = true ∧ 0 ≤ fr ∧ fr ≤ Log.Span l then (Log.mk (Log.Mem l) (Log.Span l) ((Log.Lst l).filter (goes fr)), 0) else (l, 1)

theorem undo_Trim_eq (l : Log) (h : smallL l) (to : Int) : undo_Trim l to = some (trimS l to) := by
  unfold undo_Trim trimS
  rw [undo_Right_eq l h.2]
  simp only [Option.bind_some, copy_small h]
  by_cases hok : rightS l = true ∧ 0 ≤ to ∧ to ≤ Log.Span l
  · obtain ⟨hr, h0, ha⟩ := hok
    have hw : (if rightS l = true then some (undo_span to (Log.Span l)) else some false) = some true := by simp [hr, undo_span, h0, ha]
    rw [hw, if_pos (show rightS l = true ∧ 0 ≤ to ∧ to ≤ Log.Span l from ⟨hr, h0, ha⟩)]
    have hl2 := h.2
    have lp := loop_index (f := undo_Trim_L2 to (Log.Lst l) (List.length (Log.Lst l) : Int)) (n := (Log.Lst l).length) (fun i => (i : Int)) (fun i => optT (goes to) (Log.Lst l)[i]?) (e := .inl ()) (r := fun i => .inr (i : Int)) (fun i hi _ => by
      have hlt : (i : Int) < (List.length (Log.Lst l) : Int) := by omega
      unfold undo_Trim_L2
      simp only [hlt, decide_true, if_true, idxO_in hi, getO_in hi, Option.bind_some, w64_succ (show i < 4611686018427387904 by omega), optT_in hi]
      by_cases e1 : Undo.Span (Log.Lst l)[i] < to
      · have : ¬ to ≤ Undo.Span (Log.Lst l)[i] := by omega
        simp [e1, goes, this]
      · have : to ≤ Undo.Span (Log.Lst l)[i] := by omega
        simp [e1, goes, this]) (fun _ => by
      unfold undo_Trim_L2
      simp)
    rw [show ((0 : Nat) : Int) = 0 from rfl] at lp
    rcases lp with ⟨hall, hlp⟩ | ⟨k, hk, hbad, hpre, hlp⟩
    · have hself : (Log.Lst l).filter (goes to) = Log.Lst l := by
        rw [List.filter_eq_self]
        intro u hu
        obtain ⟨i, hi, rfl⟩ := List.getElem_of_mem hu
        have := hall i hi
        rwa [optT_in hi] at this
      have hsub : subO (Log.Lst l) (0 : Int) (List.length (Log.Lst l) : Int) = some (Log.Lst l) := by
        have := subO_in (l := Log.Lst l) (i := 0) (j := (Log.Lst l).length) (by omega) (by omega)
        rw [List.drop_zero, List.take_length] at this
        exact this
      simp [hlp, hself, hsub]
    · rw [optT_in hk] at hbad
      obtain ⟨i, m, hlo, him, hml, htk⟩ := del_loop (f := undo_Trim_L1 to) (l := Log.Lst l) (keep := goes to) (fun i j m hj hij hm => by
        have hlt : (j : Int) < (List.length m : Int) := by omega
        unfold undo_Trim_L1
        simp only [hlt, decide_true, if_true, idxO_in hj, getO_in hj, Option.bind_some, w64_succ (show j < 4611686018427387904 by omega)]
        have him : i < m.length := by omega
        by_cases e1 : Undo.Span m[j] < to
        · have : ¬ to ≤ Undo.Span m[j] := by omega
          simp [e1, goes, this]
        · have : to ≤ Undo.Span m[j] := by omega
          simp [e1, goes, this, idxO_in him, setO_in him, w64_succ (show i < 4611686018427387904 by omega)]) (fun i m hm => by
        unfold undo_Trim_L1
        simp) hk (fun i hi hik => by
        have := hpre i hik
        rwa [optT_in hi] at this) hbad
      have hk1 : ¬ (k : Int) = -1 := by omega
      have hsub : subO (m.take i ++ List.replicate (m.length - i) (Undo.mk 0 0 0)) (0 : Int) (i : Int) = some (m.take i) := by
        have hl : (m.take i ++ List.replicate (m.length - i) (Undo.mk 0 0 0)).length = m.length := by simp; omega
        have := subO_in (l := m.take i ++ List.replicate (m.length - i) (Undo.mk 0 0 0)) (i := 0) (j := i) (by omega) (by omega)
        rw [List.drop_zero, del_take him] at this
        exact this
      simp only [hlp, orExit_inr, Option.bind_some, hk1, decide_false, Bool.false_eq_true, if_false, Bool.not_true, w64_succ (show k < 4611686018427387904 by omega), hlo]
      rw [del_tail him]
      simp only [Option.bind_some, hsub]
      rw [htk]
  · rw [if_neg hok]
    have hw : (if rightS l = true then some (undo_span to (Log.Span l)) else some false) = some false := by
      cases hr : rightS l with
      | false => simp
      | true =>
        simp only [undo_span, if_true]
        congr 1
        rw [Bool.and_eq_false_iff, decide_eq_false_iff_not, decide_eq_false_iff_not]
        by_cases h0 : 0 ≤ to
        · right; intro e; exact hok ⟨hr, h0, e⟩
        · left; exact h0
    rw [hw]
    simp

theorem r11_Trim_eq (l : Log) (h : smallL l) (to : Int) : r11_Trim l to = some (trimS l to) := by
  unfold r11_Trim trimS
  rw [r11_Right_eq l h.2]
  simp only [Option.bind_some]
  by_cases hok : rightS l = true ∧ 0 ≤ to ∧ to ≤ Log.Span l
  · obtain ⟨hr, h0, ha⟩ := hok
    have hw : (if (!rightS l) = true then some true else if decide (to < (0 : Int)) = true then some true else some (decide (Log.Span l < to))) = some false := by
      have e1 : ¬ to < 0 := by omega
      have e2 : ¬ Log.Span l < to := by omega
      simp [hr, e1, e2]
    rw [hw, if_pos (show rightS l = true ∧ 0 ≤ to ∧ to ≤ Log.Span l from ⟨hr, h0, ha⟩)]
    have hl2 := h.2
    have rest := loop_good (f := r11_Trim_L1 l to) (n := (Log.Lst l).length) (e := (Log.Lst l).filter (goes to)) (fun i => ((i : Int), ((Log.Lst l).take i).filter (goes to))) (fun i hi => by
      have hlt : (i : Int) < (List.length (Log.Lst l) : Int) := by omega
      have hfl : (((Log.Lst l).take i).filter (goes to)).length ≤ 1000 := by
        have h1 := List.length_filter_le (goes to) ((Log.Lst l).take i)
        have h2 := List.length_take_le i (Log.Lst l)
        omega
      have happ : appO 24 (((Log.Lst l).take i).filter (goes to)) ([(Log.Lst l)[i]] : List Undo) = some (((Log.Lst l).take i).filter (goes to) ++ [(Log.Lst l)[i]]) := appO_small (by simp; omega) (by omega)
      unfold r11_Trim_L1
      simp only [hlt, decide_true, if_true, getO_in hi, Option.bind_some, w64_succ (show i < 4611686018427387904 by omega), take_succ_get hi, List.filter_append, happ]
      by_cases e1 : to ≤ Undo.Span (Log.Lst l)[i] <;> simp [e1, goes]) (by
      unfold r11_Trim_L1
      simp)
    simp only [List.take_zero, List.filter_nil] at rest
    rw [show ((0 : Nat) : Int) = 0 from rfl] at rest
    simp [rest]
  · rw [if_neg hok]
    have hw : (if (!rightS l) = true then some true else if decide (to < (0 : Int)) = true then some true else some (decide (Log.Span l < to))) = some true := by
      cases hr : rightS l with
      | false => simp
      | true =>
        by_cases h0 : 0 ≤ to
        · have e1 : ¬ to < 0 := by omega
          have e2 : Log.Span l < to := by
            rcases Int.lt_or_le (Log.Span l) to with h | h
            · exact h
            · exact absurd ⟨hr, h0, h⟩ hok
          simp [e1, e2]
        · have e1 : to < 0 := by omega
          simp [e1]
    rw [hw]
    simp

end Go.Proofs.Ytklkpogdghiagaa
