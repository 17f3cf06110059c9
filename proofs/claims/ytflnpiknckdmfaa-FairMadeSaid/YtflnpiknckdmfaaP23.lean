/- Layer 23: gaps, whether events are fair, the least bound. No condition but the sizes. -/
import Derived.Test.YtflnpiknckdmfaaPG
import Derived.Test.YtflnpiknckdmfaaD231
set_option linter.unusedSimpArgs false
set_option linter.unusedVariables false
namespace Go.Proofs.Ytflnpiknckdmfaa
open Go.SX

theorem maxT_nat (a b : Nat) : maxT (a : Int) (b : Int) = ((max a b : Nat) : Int) := by
  unfold maxT
  rw [Nat.max_def]
  split <;> split <;> omega
theorem minT_nat (a b : Nat) : minT (a : Int) (b : Int) = ((min a b : Nat) : Int) := by
  unfold minT
  rw [Nat.min_def]
  split <;> split <;> omega

/-! ### Runs without -/
def free (p : Nat → Bool) (a n : Nat) : Prop := ∀ j, a ≤ j → j < a + n → p j = false
structure IsGap (p : Nat → Bool) (L g : Nat) : Prop where
  some_ : ∃ a, a + g ≤ L ∧ free p a g
  most : ∀ a n, a + n ≤ L → free p a n → n ≤ g
theorem isGap_one {p : Nat → Bool} {L g g' : Nat} (h : IsGap p L g) (h' : IsGap p L g') : g = g' := by
  obtain ⟨a, h1, h2⟩ := h.some_
  obtain ⟨b, h3, h4⟩ := h'.some_
  have := h.most b g' h3 h4
  have := h'.most a g h1 h2
  omega
theorem isGap_lt {p : Nat → Bool} {L g b : Nat} (h : IsGap p L g) : g < b ↔ ∀ a, a + b ≤ L → ¬ free p a b := by
  constructor
  · intro hl a ha hf
    have := h.most a b ha hf
    omega
  · intro hn
    rcases Nat.lt_or_ge g b with hl | hl
    · exact hl
    · obtain ⟨a, h1, h2⟩ := h.some_
      exact absurd (fun j hj hj2 => h2 j hj (by omega)) (hn a (by omega))

def curN (p : Nat → Bool) : Nat → Nat
  | 0 => 0
  | i + 1 => if p i = true then 0 else curN p i + 1
def bestN (p : Nat → Bool) : Nat → Nat
  | 0 => 0
  | i + 1 => max (bestN p i) (curN p (i + 1))
theorem curN_le (p : Nat → Bool) : ∀ i, curN p i ≤ i
  | 0 => Nat.le_refl 0
  | i + 1 => by
    have := curN_le p i
    simp only [curN]
    split <;> omega
theorem curN_free (p : Nat → Bool) : ∀ i, free p (i - curN p i) (curN p i)
  | 0 => fun j _ h => by simp [curN] at h
  | i + 1 => by
    have h1 := curN_le p i
    have h2 := curN_free p i
    intro j hj hj2
    simp only [curN] at hj hj2
    by_cases hp : p i = true
    · rw [if_pos hp] at hj2 hj
      omega
    · rw [if_neg hp] at hj2 hj
      by_cases hji : j = i
      · subst hji
        simpa using hp
      · exact h2 j (by omega) (by omega)
theorem curN_most (p : Nat → Bool) : ∀ i a n, a + n = i → free p a n → n ≤ curN p i
  | 0, a, n, h, _ => by omega
  | i + 1, a, n, h, hf => by
    simp only [curN]
    cases n with
    | zero => omega
    | succ n =>
      have hpi : p i = false := hf i (by omega) (by omega)
      rw [hpi, if_neg (by simp)]
      have := curN_most p i a n (by omega) fun j hj hj2 => hf j hj (by omega)
      omega
theorem bestN_gap (p : Nat → Bool) : ∀ i, IsGap p i (bestN p i)
  | 0 => ⟨⟨0, by simp [bestN], fun j _ h => by simp [bestN] at h⟩, fun a n h _ => by omega⟩
  | i + 1 => by
    have h := bestN_gap p i
    have hc := curN_le p (i + 1)
    refine ⟨?_, ?_⟩
    · simp only [bestN, Nat.max_def]
      split
      · refine ⟨i + 1 - curN p (i + 1), by omega, curN_free p (i + 1)⟩
      · obtain ⟨a, h1, h2⟩ := h.some_
        exact ⟨a, by omega, h2⟩
    · intro a n hn hf
      have hb : bestN p i ≤ bestN p (i + 1) := by simp only [bestN]; exact Nat.le_max_left _ _
      have hb2 : curN p (i + 1) ≤ bestN p (i + 1) := by simp only [bestN]; exact Nat.le_max_right _ _
      by_cases he : a + n = i + 1
      · have := curN_most p (i + 1) a n he hf
        omega
      · have := h.most a n (by omega) hf
        omega

/-! ### Events -/
def hitE (x e : Event) : Bool := fair_same x e
def hitAt (x : Event) (l : List Event) (i : Nat) : Bool := match l[i]? with | some e => hitE x e | none => false
theorem hitAt_in {x : Event} {l : List Event} {i : Nat} (h : i < l.length) : hitAt x l i = hitE x l[i] := by
  unfold hitAt
  rw [List.getElem?_eq_getElem h]
def gapN (x : Event) (l : List Event) : Nat := bestN (hitAt x l) l.length
theorem gapN_gap (x : Event) (l : List Event) : IsGap (hitAt x l) l.length (gapN x l) := bestN_gap _ _
theorem gapN_le (x : Event) (l : List Event) : gapN x l ≤ l.length := by
  obtain ⟨a, h, _⟩ := (gapN_gap x l).some_
  omega

theorem fair_Gap_eq (l : List Event) (x : Event) (hl : l.length ≤ 100000) : fair_Gap l x = some (gapN x l : Int) := by
  unfold fair_Gap
  have lp := loop_good (f := fair_Gap_L1 l x (List.length l : Int)) (n := l.length) (e := (gapN x l : Int)) (fun i => ((bestN (hitAt x l) i : Int), (curN (hitAt x l) i : Int), (i : Int))) (fun i hi => by
    have hlt : (i : Int) < (List.length l : Int) := by omega
    have hc := curN_le (hitAt x l) i
    have hv : (bif fair_same x l[i] then (0 : Int) else w64 ((curN (hitAt x l) i : Int) + 1)) = ((curN (hitAt x l) (i + 1) : Nat) : Int) := by
      simp only [curN, hitAt_in hi, hitE]
      cases fair_same x l[i]
      · simp only [cond_false, Bool.false_eq_true, if_false]; exact w64_succ (by omega)
      · simp only [cond_true, if_true]; rfl
    unfold fair_Gap_L1
    simp only [hlt, decide_true, if_true, getO_in hi, Option.bind_some, hv, maxT_nat, w64_succ (show i < 4611686018427387904 by omega), bestN]) (by
    unfold fair_Gap_L1
    simp only [show ¬ (List.length l : Int) < (List.length l : Int) by omega, decide_false, Bool.false_eq_true, if_false]
    rfl)
  simp only [bestN, curN] at lp
  rw [show (((0 : Nat) : Int)) = 0 from rfl] at lp
  simp only [lp, Option.bind_some]

theorem among_eq (w : List Event) (x : Event) (hl : w.length ≤ 100000) : r23_Among w x = some (w.any (hitE x)) := by
  unfold r23_Among
  have lp := check_all (f := r23_Among_L1 w x) (n := w.length) (g := fun _ => some false) (fun i => (i : Int)) (fun i => optT (fun e => !hitE x e) w[i]?)
  have key : loopD (r23_Among_L1 w x) (0 : Int) = some (if w.any (hitE x) = true then .inr true else .inl ()) := by
    rw [any_range]
    have := loop_check (f := r23_Among_L1 w x) (n := w.length) (e := (Sum.inl () : Unit ⊕ Bool)) (r := (Sum.inr true : Unit ⊕ Bool)) (fun i => (i : Int)) (fun i => optT (fun e => !hitE x e) w[i]?) (fun i hi _ => by
      have hlt : (i : Int) < (List.length w : Int) := by omega
      rw [optT_in hi]
      unfold r23_Among_L1
      simp only [hlt, decide_true, if_true, getO_in hi, Option.bind_some, w64_succ (show i < 4611686018427387904 by omega), hitE, fair_same]
      by_cases hk : Event.Kind w[i] = Event.Kind x
      · by_cases h1 : Event.Kind x = 1
        · by_cases hn : Event.N w[i] = Event.N x
          · simp [hk, h1, hn]
          · have hn' : ¬ Event.N x = Event.N w[i] := fun h => hn h.symm
            simp [hk, h1, hn, hn']
        · simp [hk, h1]
      · have hk' : ¬ Event.Kind x = Event.Kind w[i] := fun h => hk h.symm
        simp [hk, hk']) (fun _ => by
      unfold r23_Among_L1
      simp only [show ¬ (List.length w : Int) < (List.length w : Int) by omega, decide_false, Bool.false_eq_true, if_false])
    rw [show (((0 : Nat) : Int)) = 0 from rfl] at this
    rw [this]
    cases (List.range w.length).all fun i => optT (fun e => !hitE x e) w[i]? <;> rfl
  rw [key]
  cases w.any (hitE x) <;> rfl

theorem window_any {x : Event} {l : List Event} {a n : Nat} (h : a + n ≤ l.length) : (((l.take (a + n)).drop a).any (hitE x) = false) ↔ free (hitAt x l) a n := by
  rw [any_range]
  rw [Bool.not_eq_false', range_all]
  have hlen : ((l.take (a + n)).drop a).length = n := by simp; omega
  constructor
  · intro hh j hj hj2
    have := hh (j - a) (by omega)
    rw [List.getElem?_drop, List.getElem?_take, if_pos (by omega), show a + (j - a) = j by omega, optT_in (by omega)] at this
    rw [hitAt_in (by omega)]
    simpa using this
  · intro hf i hi
    have := hf (a + i) (by omega) (by omega)
    rw [hitAt_in (by omega)] at this
    rw [List.getElem?_drop, List.getElem?_take, if_pos (by omega), optT_in (by omega), this]
    rfl

/-- The run without from a place on. -/
def runN (x : Event) (l : List Event) (i : Nat) : Nat := firstI (fun j => !hitAt x l (i + j)) (l.length - i)
def bestR (x : Event) (l : List Event) : Nat → Nat
  | 0 => 0
  | i + 1 => max (bestR x l i) (runN x l i)
theorem bestR_gap (x : Event) (l : List Event) : ∀ k, k ≤ l.length → (∃ a, a + bestR x l k ≤ l.length ∧ free (hitAt x l) a (bestR x l k)) ∧ ∀ a n, a < k → a + n ≤ l.length → free (hitAt x l) a n → n ≤ bestR x l k
  | 0, _ => ⟨⟨0, by simp [bestR], fun j _ h => by simp [bestR] at h⟩, fun a n h => by omega⟩
  | k + 1, hk => by
    obtain ⟨h1, h2⟩ := bestR_gap x l k (by omega)
    obtain ⟨f1, f2, f3⟩ := firstI_facts (fun j => !hitAt x l (k + j)) (l.length - k)
    have hrun : runN x l k = firstI (fun j => !hitAt x l (k + j)) (l.length - k) := rfl
    rw [← hrun] at f1 f2 f3
    refine ⟨?_, ?_⟩
    · simp only [bestR, Nat.max_def]
      split
      · refine ⟨k, by omega, fun j hj hj2 => ?_⟩
        have := f2 (j - k) (by omega)
        rw [show k + (j - k) = j by omega] at this
        simpa using this
      · exact h1
    · intro a n ha hn hf
      have hb : bestR x l k ≤ bestR x l (k + 1) := by simp only [bestR]; exact Nat.le_max_left _ _
      have hb2 : runN x l k ≤ bestR x l (k + 1) := by simp only [bestR]; exact Nat.le_max_right _ _
      by_cases he : a = k
      · subst he
        rcases Nat.lt_or_ge (runN x l a) n with hl | hl
        · have h4 := f3 (by omega)
          have h5 := hf (a + runN x l a) (by omega) (by omega)
          simp [h5] at h4
        · omega
      · have := h2 a n (by omega) hn hf
        omega
theorem bestR_is (x : Event) (l : List Event) : bestR x l l.length = gapN x l := by
  obtain ⟨h1, h2⟩ := bestR_gap x l l.length (Nat.le_refl _)
  refine isGap_one (p := hitAt x l) (L := l.length) ⟨h1, fun a n hn hf => ?_⟩ (gapN_gap x l)
  by_cases ha : a < l.length
  · exact h2 a n ha hn hf
  · omega

theorem r23_Gap_eq (l : List Event) (x : Event) (hl : l.length ≤ 100000) : r23_Gap l x = some (gapN x l : Int) := by
  unfold r23_Gap
  have inner : ∀ i, i < l.length → loopD (r23_Gap_L1 l x) (i : Int) = some ((i + runN x l i : Nat) : Int) := fun i hi => by
    have f1 := (firstI_facts (fun j => !hitAt x l (i + j)) (l.length - i)).1
    have := loop_first (f := r23_Gap_L1 l x) (n := l.length - i) (fun j => ((i + j : Nat) : Int)) (fun j => !hitAt x l (i + j)) (e := (l.length : Int)) (r := fun j => ((i + j : Nat) : Int)) (fun j hj _ => by
      have hlt : ((i + j : Nat) : Int) < (List.length l : Int) := by omega
      have hij : i + j < l.length := by omega
      have hs : subO l ((i + j : Nat) : Int) ((i + j + 1 : Nat) : Int) = some ((l.take (i + j + 1)).drop (i + j)) := subO_in (by omega) (by omega)
      have hany : ((l.take (i + j + 1)).drop (i + j)).any (hitE x) = hitAt x l (i + j) := by
        have h1 := window_any (x := x) (l := l) (a := i + j) (n := 1) (by omega)
        cases ht : hitAt x l (i + j)
        · exact h1.2 fun j' a b => by rw [show j' = i + j by omega]; exact ht
        · cases ha : ((l.take (i + j + 1)).drop (i + j)).any (hitE x)
          · have := h1.1 ha (i + j) (by omega) (by omega)
            rw [ht] at this
            cases this
          · rfl
      unfold r23_Gap_L1
      simp only [hlt, decide_true, if_true, Option.bind_some, w64_succ (show i + j < 4611686018427387904 by omega), hs, among_eq _ _ (show ((l.take (i + j + 1)).drop (i + j)).length ≤ 100000 by simp; omega), hany]
      cases hitAt x l (i + j) <;> rfl) (fun _ => by
      unfold r23_Gap_L1
      have : ¬ ((i + (l.length - i) : Nat) : Int) < (List.length l : Int) := by omega
      simp only [this, decide_false, Bool.false_eq_true, if_false, Option.bind_some]
      rw [show i + (l.length - i) = l.length by omega])
    rw [Nat.add_zero] at this
    rw [this]
    unfold runN
    split
    · rfl
    · congr 2
      have : firstI (fun j => !hitAt x l (i + j)) (l.length - i) = l.length - i := by omega
      rw [this]
      omega
  have lp := loop_good (f := r23_Gap_L2 l x) (n := l.length) (e := (gapN x l : Int)) (fun i => ((bestR x l i : Int), (i : Int))) (fun i hi => by
    have hlt : (i : Int) < (List.length l : Int) := by omega
    have f1 : runN x l i ≤ l.length - i := (firstI_facts (fun j => !hitAt x l (i + j)) (l.length - i)).1
    have hw : w64 (((i + runN x l i : Nat) : Int) - (i : Int)) = (runN x l i : Int) := by rw [w64_id (by omega) (by omega)]; omega
    unfold r23_Gap_L2
    simp only [hlt, decide_true, if_true, inner i hi, Option.bind_some, hw, w64_succ (show i < 4611686018427387904 by omega), bestR, Nat.max_def]
    by_cases h : (bestR x l i : Int) < (runN x l i : Int)
    · simp only [h, decide_true, cond_true]
      rw [if_pos (by omega)]
    · simp only [h, decide_false, cond_false]
      by_cases h2 : bestR x l i ≤ runN x l i
      · rw [if_pos h2, show bestR x l i = runN x l i by omega]
      · rw [if_neg h2]) (by
    unfold r23_Gap_L2
    simp only [show ¬ (List.length l : Int) < (List.length l : Int) by omega, decide_false, Bool.false_eq_true, if_false]
    rw [bestR_is])
  simp only [bestR] at lp
  rw [show (((0 : Nat) : Int)) = 0 from rfl] at lp
  simp only [lp, Option.bind_some]

/-! ### What all need -/
def mustL (cores : Nat) : List Event := [Event.mk 2 0 0, Event.mk 4 0 0, Event.mk 5 0 0] ++ (List.range cores).map fun i : Nat => Event.mk 1 (i : Int) 0
theorem mustL_len (c : Nat) : (mustL c).length = c + 3 := by simp [mustL]
theorem must_loop (c : Nat) (hc : c ≤ 1000) : loopD (r23_must_L1 (c : Int)) ((0 : Int), ([(Event.mk (2 : Int) (0 : Int) (0 : Int)), (Event.mk (4 : Int) (0 : Int) (0 : Int)), (Event.mk (5 : Int) (0 : Int) (0 : Int))] : List Event)) = some (mustL c) := by
  have lp := loop_good (f := r23_must_L1 (c : Int)) (n := c) (e := mustL c) (fun i => ((i : Int), mustL i)) (fun i hi => by
    have hlt : (i : Int) < (c : Int) := by omega
    have ha : appO 24 (mustL i) ([Event.mk (1 : Int) (i : Int) (0 : Int)] : List Event) = some (mustL (i + 1)) := by
      rw [appO_small (by rw [mustL_len]; simp; omega) (by omega)]
      simp [mustL, List.range_succ]
    unfold r23_must_L1
    simp only [hlt, decide_true, if_true, ha, Option.bind_some, w64_succ (show i < 4611686018427387904 by omega)]) (by
    unfold r23_must_L1
    simp only [show ¬ (c : Int) < (c : Int) by omega, decide_false, Bool.false_eq_true, if_false])
  exact lp
theorem r23_must_eq (c : Nat) (hc : c ≤ 1000) : r23_must (c : Int) = some (mustL c) := by unfold r23_must; simp only [must_loop c hc, Option.bind_some]
theorem fair_must_eq (c : Nat) (hc : c ≤ 1000) : fair_must (c : Int) = some (mustL c) := by unfold fair_must; simp only [must_loop c hc, Option.bind_some]

/-- The most of them. -/
def topN (l : List Nat) : Nat := l.foldl max 0
theorem foldMax_lt (l : List Nat) : ∀ (a b : Nat), l.foldl max a < b ↔ a < b ∧ ∀ x ∈ l, x < b := by
  induction l with
  | nil => intro a b; simp
  | cons y l ih =>
    intro a b
    simp only [List.foldl_cons, ih, List.mem_cons, forall_eq_or_imp]
    rw [Nat.max_lt]
    exact and_assoc
theorem topN_lt {l : List Nat} {b : Nat} (hb : 0 < b) : topN l < b ↔ ∀ x ∈ l, x < b := by
  unfold topN
  rw [foldMax_lt]
  exact ⟨fun h => h.2, fun h => ⟨hb, h⟩⟩
def mostG (l : List Event) (c : Nat) : Nat := topN ((mustL c).map fun x => gapN x l)
theorem mostG_lt {l : List Event} {c b : Nat} (hb : 0 < b) : mostG l c < b ↔ ∀ x ∈ mustL c, gapN x l < b := by
  unfold mostG
  rw [topN_lt hb]
  constructor
  · intro h x hx
    exact h _ (List.mem_map.2 ⟨x, hx, rfl⟩)
  · intro h y hy
    obtain ⟨x, hx, rfl⟩ := List.mem_map.1 hy
    exact h x hx
theorem mostG_le (l : List Event) (c : Nat) : mostG l c ≤ l.length := by
  have := (mostG_lt (l := l) (c := c) (b := l.length + 1) (by omega)).2 fun x _ => by have := gapN_le x l; omega
  omega

theorem getO_zero_cons {α : Type} {x : α} {l : List α} : getO (x :: l) (0 : Int) = some x := by simp [getO]
theorem slices_Max_eq (l : List Nat) (hl : l.length ≤ 100000) : slices_Max_int_int ((0 : Int) :: l.map fun n : Nat => (n : Int)) = some (topN l : Int) := by
  unfold slices_Max_int_int
  have h1 : ¬ ((((0 : Int) :: l.map fun n : Nat => (n : Int)).length : Nat) : Int) < 1 := by simp; omega
  have lp := loop_good (f := slices_Max_int_int_L1 ((0 : Int) :: l.map fun n : Nat => (n : Int))) (n := l.length) (e := (topN l : Int)) (fun i => ((topN (l.take i) : Int), ((i + 1 : Nat) : Int))) (fun i hi => by
    have hlt : ((i + 1 : Nat) : Int) < ((((0 : Int) :: l.map fun n : Nat => (n : Int)).length : Nat) : Int) := by simp; omega
    have hg : getO ((0 : Int) :: l.map fun n : Nat => (n : Int)) ((i + 1 : Nat) : Int) = some (l[i] : Int) := by
      rw [getO_in (by simp; omega)]; simp
    have ht : topN (l.take (i + 1)) = max (topN (l.take i)) l[i] := by unfold topN; rw [take_succ_get hi, List.foldl_append]; rfl
    unfold slices_Max_int_int_L1
    simp only [hlt, decide_true, if_true, hg, Option.bind_some, maxT_nat, ht, w64_succ (show i + 1 < 4611686018427387904 by omega)]) (by
    have hlt : ¬ ((l.length + 1 : Nat) : Int) < ((((0 : Int) :: l.map fun n : Nat => (n : Int)).length : Nat) : Int) := by simp
    unfold slices_Max_int_int_L1
    simp only [hlt, decide_false, Bool.false_eq_true, if_false, List.take_length])
  simp only [List.take_zero] at lp
  rw [show (topN ([] : List Nat) : Int) = 0 from rfl, show (((0 + 1 : Nat) : Int)) = 1 from rfl] at lp
  simp only [h1, decide_false, Bool.false_eq_true, if_false, getO_zero_cons, Option.bind_some, lp]

theorem fair_may_iff {c : Int} : fair_may c = true ↔ 1 ≤ c ∧ c ≤ 4 := by unfold fair_may; simp
theorem fair_Least_eq (l : List Event) (c : Nat) (h1 : 1 ≤ c) (h2 : c ≤ 4) (hl : l.length ≤ 100000) : fair_Least l (c : Int) = some ((mostG l c + 1 : Nat) : Int) := by
  have hm : fair_may (c : Int) = true := fair_may_iff.2 (by omega)
  have hg := mostG_le l c
  unfold fair_Least
  have lp := loop_good (f := fair_Least_L1 l (mustL c) (List.length (mustL c) : Int)) (n := (mustL c).length) (e := (0 : Int) :: ((mustL c).map fun x => gapN x l).map fun n : Nat => (n : Int)) (fun i => ((i : Int), (0 : Int) :: (((mustL c).take i).map fun x => gapN x l).map fun n : Nat => (n : Int))) (fun i hi => by
    have hlt : (i : Int) < (List.length (mustL c) : Int) := by omega
    have hml := mustL_len c
    have ha : appO 8 ((0 : Int) :: (((mustL c).take i).map fun x => gapN x l).map fun n : Nat => (n : Int)) ([(gapN (mustL c)[i] l : Int)] : List Int) = some ((0 : Int) :: (((mustL c).take (i + 1)).map fun x => gapN x l).map fun n : Nat => (n : Int)) := by
      rw [appO_small (by simp; omega) (by omega), take_succ_get hi, List.map_append, List.map_append]
      rfl
    unfold fair_Least_L1
    simp only [hlt, decide_true, if_true, getO_in hi, Option.bind_some, fair_Gap_eq l _ hl, ha, w64_succ (show i < 4611686018427387904 by omega)]) (by
    unfold fair_Least_L1
    simp only [show ¬ (List.length (mustL c) : Int) < (List.length (mustL c) : Int) by omega, decide_false, Bool.false_eq_true, if_false, List.take_length])
  simp only [List.take_zero, List.map_nil] at lp
  rw [show (((0 : Nat) : Int)) = 0 from rfl] at lp
  have hmx := slices_Max_eq ((mustL c).map fun x => gapN x l) (by simp [mustL_len]; omega)
  simp only [hm, Bool.not_true, Bool.false_eq_true, if_false, fair_must_eq c (by omega), Option.bind_some, lp, hmx]
  rw [show topN ((mustL c).map fun x => gapN x l) = mostG l c from rfl, w64_succ (by omega)]
theorem fair_Least_no (l : List Event) (c : Int) (h : ¬ (1 ≤ c ∧ c ≤ 4)) : fair_Least l c = some 0 := by
  have hm : fair_may c = false := by
    cases e : fair_may c
    · rfl
    · exact absurd (fair_may_iff.1 e) h
  unfold fair_Least
  simp [hm]

def isN (l : List Event) (c : Nat) (b : Int) : Bool := decide ((mostG l c : Int) < b)
theorem fair_Is_eq (l : List Event) (c : Nat) (h1 : 1 ≤ c) (h2 : c ≤ 4) (hl : l.length ≤ 100000) (b : Int) : fair_Is l (c : Int) b = some (isN l c b) := by
  have hm : fair_may (c : Int) = true := fair_may_iff.2 (by omega)
  have hg := mostG_le l c
  unfold fair_Is isN
  simp only [hm, if_true, fair_Least_eq l c h1 h2 hl, Option.bind_some]
  by_cases hb : 1 ≤ b
  · by_cases hlb : (l.length : Int) < b
    · simp [hb, hlb]
      omega
    · simp [hb, hlb]
      omega
  · simp [hb]
    omega
theorem fair_Is_no (l : List Event) (c b : Int) (h : ¬ (1 ≤ c ∧ c ≤ 4)) : fair_Is l c b = some false := by
  have hm : fair_may c = false := by
    cases e : fair_may c
    · rfl
    · exact absurd (fair_may_iff.1 e) h
  unfold fair_Is
  simp [hm]

theorem r23_Is_eq (l : List Event) (c : Nat) (h1 : 1 ≤ c) (h2 : c ≤ 4) (hl : l.length ≤ 100000) (b : Int) : r23_Is l (c : Int) b = some (isN l c b) := by
  have hg := mostG_le l c
  unfold r23_Is
  by_cases hb : 1 ≤ b
  · have hc0 : ((decide ((c : Int) < (1 : Int))) || ((decide ((4 : Int) < (c : Int))) || (decide (b < (1 : Int))))) = false := by
      simp; omega
    obtain ⟨b, rfl⟩ : ∃ n : Nat, b = (n : Int) := ⟨b.toNat, by omega⟩
    simp only [hc0, Bool.false_eq_true, if_false, r23_must_eq c (by omega), Option.bind_some]
    by_cases hlb : b ≤ l.length
    · have hle : (b : Int) ≤ (List.length l : Int) := by omega
      have hw : w64 ((List.length l : Int) - (b : Int)) = ((l.length - b : Nat) : Int) := by rw [w64_id (by omega) (by omega)]; omega
      have inner : ∀ i, i + b ≤ l.length → ∀ g : Unit → Option (Int ⊕ Unit ⊕ Bool), orExit (loopD (r23_Is_L1 l (b : Int) (mustL c) (i : Int)) (0 : Int)) g = if (List.range (mustL c).length).all (fun j => optT (fun x => ((l.take (i + b)).drop i).any (hitE x)) (mustL c)[j]?) = true then g () else some (.inr (.inr false)) := fun i hi g => by
        have lp := loop_check (f := r23_Is_L1 l (b : Int) (mustL c) (i : Int)) (n := (mustL c).length) (e := (Sum.inl () : Unit ⊕ Int ⊕ Unit ⊕ Bool)) (r := .inr (.inr (.inr false))) (fun j => (j : Int)) (fun j => optT (fun x => ((l.take (i + b)).drop i).any (hitE x)) (mustL c)[j]?) (fun j hj _ => by
          have hlt : (j : Int) < (List.length (mustL c) : Int) := by omega
          have hml := mustL_len c
          have hwb : w64 ((i : Int) + (b : Int)) = ((i + b : Nat) : Int) := by rw [w64_id (by omega) (by omega)]; omega
          have hs : subO l (i : Int) ((i + b : Nat) : Int) = some ((l.take (i + b)).drop i) := subO_in (by omega) hi
          rw [optT_in hj]
          unfold r23_Is_L1
          simp only [hlt, decide_true, if_true, hwb, hs, getO_in hj, Option.bind_some, among_eq _ _ (show ((l.take (i + b)).drop i).length ≤ 100000 by simp; omega), w64_succ (show j < 4611686018427387904 by omega)]
          cases ((l.take (i + b)).drop i).any (hitE (mustL c)[j]) <;> rfl) (fun _ => by
          unfold r23_Is_L1
          simp only [show ¬ (List.length (mustL c) : Int) < (List.length (mustL c) : Int) by omega, decide_false, Bool.false_eq_true, if_false])
        rw [show (((0 : Nat) : Int)) = 0 from rfl] at lp
        rw [lp]
        split <;> rfl
      have lp := check_all (f := r23_Is_L2 l (b : Int) (mustL c)) (n := l.length - b + 1) (g := fun _ => some true) (fun i => (i : Int)) (fun i => (List.range (mustL c).length).all (fun j => optT (fun x => ((l.take (i + b)).drop i).any (hitE x)) (mustL c)[j]?)) (fun i hi _ => by
        have hle2 : (i : Int) ≤ ((l.length - b : Nat) : Int) := by omega
        unfold r23_Is_L2
        simp only [hle, hw, hle2, decide_true, Bool.and_self, if_true, inner i (by omega), w64_succ (show i < 4611686018427387904 by omega)]
        split <;> rfl) (fun _ => by
        have hle2 : ¬ ((l.length - b + 1 : Nat) : Int) ≤ ((l.length - b : Nat) : Int) := by omega
        unfold r23_Is_L2
        simp only [hw, hle2, decide_false, Bool.and_false, Bool.false_eq_true, if_false])
      rw [show (((0 : Nat) : Int)) = 0 from rfl] at lp
      rw [lp]
      have key : ((List.range (l.length - b + 1)).all fun i => (List.range (mustL c).length).all (fun j => optT (fun x => ((l.take (i + b)).drop i).any (hitE x)) (mustL c)[j]?)) = true ↔ mostG l c < b := by
        rw [mostG_lt (by omega), range_all]
        constructor
        · intro h x hx
          rw [isGap_lt (gapN_gap x l)]
          intro a ha hf
          have h3 := h a (by omega)
          rw [← all_range, List.all_eq_true] at h3
          have h4 := h3 x hx
          have h5 := (window_any (x := x) ha).2 hf
          rw [h5] at h4
          cases h4
        · intro h i hi
          rw [← all_range, List.all_eq_true]
          intro x hx
          have h3 := (isGap_lt (gapN_gap x l)).1 (h x hx) i (by omega)
          cases hh : ((l.take (i + b)).drop i).any (hitE x)
          · exact absurd ((window_any (by omega)).1 hh) h3
          · rfl
      unfold isN
      by_cases hh : mostG l c < b
      · rw [if_pos (key.2 hh)]
        congr 1
        exact (decide_eq_true (by omega)).symm
      · rw [if_neg fun h => hh (key.1 h)]
        congr 1
        exact (decide_eq_false (by omega)).symm
    · have hle : ¬ (b : Int) ≤ (List.length l : Int) := by omega
      have hs : r23_Is_L2 l (b : Int) (mustL c) (0 : Int) = some (.inr (.inl ())) := by
        unfold r23_Is_L2
        simp only [hle, decide_false, Bool.false_and, Bool.false_eq_true, if_false]
      rw [loop_out hs]
      simp [isN]
      omega
  · have hc0 : ((decide ((c : Int) < (1 : Int))) || ((decide ((4 : Int) < (c : Int))) || (decide (b < (1 : Int))))) = true := by
      simp; omega
    simp only [hc0, if_true]
    congr 1
    unfold isN
    exact (decide_eq_false (by omega)).symm
theorem r23_Is_no (l : List Event) (c b : Int) (h : ¬ (1 ≤ c ∧ c ≤ 4)) : r23_Is l c b = some false := by
  unfold r23_Is
  have hc0 : ((decide (c < (1 : Int))) || ((decide ((4 : Int) < c)) || (decide (b < (1 : Int))))) = true := by
    simp; omega
  simp only [hc0, if_true]

theorem r23_Least_eq (l : List Event) (c : Nat) (h1 : 1 ≤ c) (h2 : c ≤ 4) (hl : l.length ≤ 100000) : r23_Least l (c : Int) = some ((mostG l c + 1 : Nat) : Int) := by
  have hg := mostG_le l c
  unfold r23_Least
  have hc0 : ((decide ((c : Int) < (1 : Int))) || (decide ((4 : Int) < (c : Int)))) = false := by simp; omega
  have lp := loop_good (f := r23_Least_L1 l (c : Int)) (n := mostG l c) (e := ((mostG l c + 1 : Nat) : Int)) (fun i => ((i + 1 : Nat) : Int)) (fun i hi => by
    have hn : isN l c ((i + 1 : Nat) : Int) = false := by unfold isN; exact decide_eq_false (by omega)
    unfold r23_Least_L1
    simp only [r23_Is_eq l c h1 h2 hl, Option.bind_some, hn, Bool.not_false, if_true, w64_succ (show i + 1 < 4611686018427387904 by omega)]) (by
    have hn : isN l c ((mostG l c + 1 : Nat) : Int) = true := by unfold isN; exact decide_eq_true (by omega)
    unfold r23_Least_L1
    simp only [r23_Is_eq l c h1 h2 hl, Option.bind_some, hn, Bool.not_true, Bool.false_eq_true, if_false])
  rw [show (((0 + 1 : Nat) : Int)) = 1 from rfl] at lp
  simp only [hc0, Bool.false_eq_true, if_false, lp, Option.bind_some]
theorem r23_Least_no (l : List Event) (c : Int) (h : ¬ (1 ≤ c ∧ c ≤ 4)) : r23_Least l c = some 0 := by
  unfold r23_Least
  have hc0 : ((decide (c < (1 : Int))) || (decide ((4 : Int) < c))) = true := by simp; omega
  simp only [hc0, if_true]

/-! ### How many of each -/
def cntN (l : List Event) (k : Nat) : Nat := l.countP fun e => decide (Event.Kind e = ((k + 1 : Nat) : Int))
theorem fair_Counts_eq (l : List Event) (hl : l.length ≤ 100000) : fair_Counts l = some ((List.range 9).map fun k => (cntN l k : Int)) := by
  unfold fair_Counts
  have lp := loop_good (f := fair_Counts_L1 l (List.length l : Int)) (n := l.length) (e := (List.range 9).map fun k => (cntN l k : Int)) (fun i => ((i : Int), (List.range 9).map fun k => (cntN (l.take i) k : Int))) (fun i hi => by
    have hlt : (i : Int) < (List.length l : Int) := by omega
    have hci : ∀ k, cntN (l.take i) k ≤ l.length := fun k => Nat.le_trans List.countP_le_length (by simp; omega)
    have hcn : ∀ k, cntN (l.take (i + 1)) k = cntN (l.take i) k + if Event.Kind l[i] = ((k + 1 : Nat) : Int) then 1 else 0 := fun k => by
      unfold cntN
      rw [take_succ_get hi, List.countP_append, List.countP_singleton]
      simp
    unfold fair_Counts_L1
    simp only [hlt, decide_true, if_true, getO_in hi, Option.bind_some, w64_succ (show i < 4611686018427387904 by omega)]
    by_cases hk : 1 ≤ Event.Kind l[i] ∧ Event.Kind l[i] ≤ 9
    · obtain ⟨k, hkk⟩ : ∃ k : Nat, Event.Kind l[i] = ((k + 1 : Nat) : Int) := ⟨(Event.Kind l[i] - 1).toNat, by omega⟩
      have hk9 : k < 9 := by omega
      have hw : w64 (((k + 1 : Nat) : Int) - 1) = (k : Int) := by rw [w64_id (by omega) (by omega)]; omega
      have hix : idxO (9 : Int) (k : Int) = some (k : Int) := idxO_lt (by omega) (by omega)
      have hg : getO ((List.range 9).map fun k => (cntN (l.take i) k : Int)) (k : Int) = some (cntN (l.take i) k : Int) := by
        rw [getO_in (by simp; omega)]; simp
      have hs : setO ((List.range 9).map fun k => (cntN (l.take i) k : Int)) (k : Int) ((cntN (l.take i) k + 1 : Nat) : Int) = some ((List.range 9).map fun k => (cntN (l.take (i + 1)) k : Int)) := by
        rw [setO_in (by simp; omega)]
        congr 1
        apply List.ext_getElem
        · simp
        · intro j hj hj2
          simp only [List.length_set, List.length_map, List.length_range] at hj
          rw [List.getElem_set]
          simp only [List.getElem_map, List.getElem_range]
          rw [hcn j, hkk]
          by_cases hjk : k = j
          · subst hjk; simp
          · rw [if_neg hjk, if_neg (by omega)]; simp
      have hcond : (decide ((1 : Int) ≤ Event.Kind l[i]) && decide (Event.Kind l[i] ≤ 9)) = true := by simp; exact hk
      simp only [hcond, if_true]
      rw [hkk]
      simp only [hw, hix, Option.bind_some, hg, w64_succ (show cntN (l.take i) k < 4611686018427387904 by have := hci k; omega), hs]
    · have hcond : (decide ((1 : Int) ≤ Event.Kind l[i]) && decide (Event.Kind l[i] ≤ 9)) = false := by simp; omega
      simp only [hcond, Bool.false_eq_true, if_false, Option.bind_some]
      congr 3
      apply List.map_congr_left
      intro k hk'
      have := List.mem_range.1 hk'
      rw [hcn k, if_neg (by omega)]
      rfl) (by
    unfold fair_Counts_L1
    simp only [show ¬ (List.length l : Int) < (List.length l : Int) by omega, decide_false, Bool.false_eq_true, if_false, List.take_length])
  have h0 : ((List.range 9).map fun k => (cntN (l.take 0) k : Int)) = [(0 : Int), 0, 0, 0, 0, 0, 0, 0, 0] := by simp [cntN]; rfl
  rw [h0, show (((0 : Nat) : Int)) = 0 from rfl] at lp
  simp only [lp, Option.bind_some]

end Go.Proofs.Ytflnpiknckdmfaa
