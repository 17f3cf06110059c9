/- Plain lemmas about loops, lists and entries, for the proofs behind. No condition. -/
import Derived.Test.YtflnpiknckdmfaaLim
set_option linter.unusedSimpArgs false
set_option linter.unusedVariables false
namespace Go.Proofs.Ytflnpiknckdmfaa
open Go.SX

/-! ### Numbers -/
theorem w64_succ {i : Nat} (h : i < 4611686018427387904) : w64 ((i : Int) + 1) = ((i + 1 : Nat) : Int) := by rw [w64_id (by omega) (by omega)]; omega
theorem w64_nat {i : Nat} (h : i < 4611686018427387904) : w64 (i : Int) = i := w64_id (by omega) (by omega)
theorem wu64_nat {i : Nat} (h : i < 4611686018427387904) : wu64 (i : Int) = i := wu64_id (by omega) (by omega)
theorem rem_pos {a n : Int} (h0 : 0 ≤ a) (hn : 0 < n) : remO a n = some (a % n) ∧ 0 ≤ a % n ∧ a % n < n := by
  refine ⟨?_, Int.emod_nonneg _ (by omega), Int.emod_lt_of_pos _ hn⟩
  unfold remO
  rw [if_neg (by omega), Int.tmod_eq_emod_of_nonneg h0]

/-! ### Lists -/
theorem getO_in {α : Type} {l : List α} {i : Nat} (h : i < l.length) : getO l (i : Int) = some l[i] := by rw [getO_nat, List.getElem?_eq_getElem h]
theorem idxO_in {n i : Nat} (h : i < n) : idxO (n : Int) (i : Int) = some (i : Int) := idxO_lt (by omega) (by omega)
theorem setO_in {α : Type} {l : List α} {i : Nat} {v : α} (h : i < l.length) : setO l (i : Int) v = some (l.set i v) := by rw [setO_lt (by omega) (by omega)]; simp
theorem room_small {n b : Nat} (h : n ≤ 1000000) (hb : b ≤ 10000) : roomOk n b = true := by
  refine roomOk_of ?_ (by omega)
  have : n * b ≤ 1000000 * 10000 := Nat.mul_le_mul h hb
  omega
theorem appO_small {α : Type} {b : Nat} {s x : List α} (h : s.length + x.length ≤ 1000000) (hb : b ≤ 10000) : appO b s x = some (s ++ x) := appO_ok (room_small h hb)
theorem cloneO_small {α : Type} {b : Nat} {s : List α} (h : s.length ≤ 1000000) (hb : b ≤ 10000) : cloneO b s = some s := cloneO_ok (room_small h hb)
theorem repO_small {α : Type} {z : α} {b n : Nat} (h : n ≤ 1000000) (hb : b ≤ 10000) : repO z b (n : Int) (n : Int) = some (List.replicate n z) := by
  rw [repO_ok (by omega) (by omega) (by simpa using room_small h hb)]
  simp
theorem subO_in {α : Type} {l : List α} {i j : Nat} (h1 : i ≤ j) (h2 : j ≤ l.length) : subO l (i : Int) (j : Int) = some ((l.take j).drop i) := by
  rw [subO_ok (by omega) (by omega) (by omega)]; simp
theorem take_succ_get {α : Type} {l : List α} {i : Nat} (h : i < l.length) : l.take (i + 1) = l.take i ++ [l[i]] := by
  rw [List.take_add_one, List.getElem?_eq_getElem h]; rfl

/-! ### Loops -/
/-- Rounds that all go on. -/
theorem loop_good {S E : Type} {f : S → Option (S ⊕ E)} (st : Nat → S) {n : Nat} {e : E} (step : ∀ i, i < n → f (st i) = some (.inl (st (i + 1)))) (out : f (st n) = some (.inr e)) : loopD f (st 0) = some e := by
  rw [loop_to st (Nat.zero_le n) (fun i _ h => step i h), loop_out out]
/-- The same from a later state on. -/
theorem loop_from {S E : Type} {f : S → Option (S ⊕ E)} (st : Nat → S) {k n : Nat} (hk : k ≤ n) {e : E} (step : ∀ i, k ≤ i → i < n → f (st i) = some (.inl (st (i + 1)))) (out : f (st n) = some (.inr e)) : loopD f (st k) = some e := by
  rw [loop_to st hk step, loop_out out]
/-- Rounds that check something. -/
theorem loop_check {S E : Type} {f : S → Option (S ⊕ E)} (st : Nat → S) {n : Nat} (ok : Nat → Bool) {e r : E}
    (step : ∀ i, i < n → (∀ j, j < i → ok j = true) → f (st i) = some (if ok i = true then .inl (st (i + 1)) else .inr r))
    (out : (∀ j, j < n → ok j = true) → f (st n) = some (.inr e)) : loopD f (st 0) = some (if (List.range n).all ok = true then e else r) := by
  rcases first_of ok n with h | ⟨k, hk, h1, h2⟩
  · have hall : (List.range n).all ok = true := by
      rw [List.all_eq_true]
      intro i hi
      exact h i (List.mem_range.1 hi)
    rw [if_pos hall]
    refine loop_good st (fun i hi => ?_) (out h)
    rw [step i hi fun j hj => h j (by omega), h i hi]
    rfl
  · have hall : (List.range n).all ok = false := by
      rw [List.all_eq_false]
      exact ⟨k, List.mem_range.2 hk, by rw [h1]; simp⟩
    rw [hall]
    refine loop_good (n := k) st (fun i hi => ?_) ?_
    · rw [step i (by omega) fun j hj => h2 j (by omega), h2 i hi]
      rfl
    · rw [step k hk h2, h1]
      rfl
/-- A check that tells false. -/
theorem check_all {S : Type} {f : S → Option (S ⊕ Unit ⊕ Bool)} (st : Nat → S) {n : Nat} (ok : Nat → Bool) {g : Unit → Option Bool}
    (step : ∀ i, i < n → (∀ j, j < i → ok j = true) → f (st i) = some (if ok i = true then .inl (st (i + 1)) else .inr (.inr false)))
    (out : (∀ j, j < n → ok j = true) → f (st n) = some (.inr (.inl ()))) : orExit (loopD f (st 0)) g = if (List.range n).all ok = true then g () else some false := by
  rw [loop_check st ok step out]
  split <;> rfl
theorem range_all {n : Nat} {p : Nat → Bool} : (List.range n).all p = true ↔ ∀ i, i < n → p i = true := by
  rw [List.all_eq_true]
  exact ⟨fun h i hi => h i (List.mem_range.2 hi), fun h i hi => h i (List.mem_range.1 hi)⟩
/-- The first place where something is so. -/
theorem loop_index {S E : Type} {f : S → Option (S ⊕ E)} (st : Nat → S) {n : Nat} (ok : Nat → Bool) {e : E} {r : Nat → E}
    (step : ∀ i, i < n → (∀ j, j < i → ok j = true) → f (st i) = some (if ok i = true then .inl (st (i + 1)) else .inr (r i)))
    (out : (∀ j, j < n → ok j = true) → f (st n) = some (.inr e)) : ((∀ j, j < n → ok j = true) ∧ loopD f (st 0) = some e) ∨ ∃ k, k < n ∧ ok k = false ∧ (∀ j, j < k → ok j = true) ∧ loopD f (st 0) = some (r k) := by
  rcases first_of ok n with h | ⟨k, hk, h1, h2⟩
  · refine .inl ⟨h, loop_good st (fun i hi => ?_) (out h)⟩
    rw [step i hi fun j hj => h j (by omega), h i hi]
    rfl
  · refine .inr ⟨k, hk, h1, h2, loop_good (n := k) st (fun i hi => ?_) ?_⟩
    · rw [step i (by omega) fun j hj => h2 j (by omega), h2 i hi]
      rfl
    · rw [step k hk h2, h1]
      rfl

/-- The first place where something is not so; all of them, if there is none. -/
def firstI (ok : Nat → Bool) : Nat → Nat
  | 0 => 0
  | n + 1 => if firstI ok n < n then firstI ok n else if ok n = true then n + 1 else n
theorem firstI_facts (ok : Nat → Bool) : ∀ n, firstI ok n ≤ n ∧ (∀ j, j < firstI ok n → ok j = true) ∧ (firstI ok n < n → ok (firstI ok n) = false)
  | 0 => ⟨Nat.le_refl 0, fun j h => absurd h (Nat.not_lt_zero j), fun h => absurd h (Nat.lt_irrefl 0)⟩
  | n + 1 => by
    obtain ⟨h1, h2, h3⟩ := firstI_facts ok n
    simp only [firstI]
    by_cases hlt : firstI ok n < n
    · rw [if_pos hlt]
      exact ⟨by omega, h2, fun _ => h3 hlt⟩
    · rw [if_neg hlt]
      have he : firstI ok n = n := by omega
      rw [he] at h2
      by_cases hok : ok n = true
      · rw [if_pos hok]
        refine ⟨Nat.le_refl _, fun j hj => ?_, fun h => absurd h (Nat.lt_irrefl _)⟩
        rcases Nat.lt_or_ge j n with h | h
        · exact h2 j h
        · have : j = n := by omega
          rw [this]; exact hok
      · rw [if_neg hok]
        exact ⟨by omega, h2, fun _ => by simpa using hok⟩
theorem firstI_all {ok : Nat → Bool} {n : Nat} : firstI ok n = n ↔ ∀ j, j < n → ok j = true := by
  obtain ⟨h1, h2, h3⟩ := firstI_facts ok n
  constructor
  · intro h j hj
    exact h2 j (by omega)
  · intro h
    rcases Nat.lt_or_ge (firstI ok n) n with hl | hl
    · have := h3 hl
      rw [h _ hl] at this
      cases this
    · omega
theorem firstI_at {ok : Nat → Bool} {n k : Nat} (hk : k < n) (h0 : ok k = false) (hp : ∀ j, j < k → ok j = true) : firstI ok n = k := by
  obtain ⟨h1, h2, h3⟩ := firstI_facts ok n
  rcases Nat.lt_trichotomy (firstI ok n) k with h | h | h
  · have := h3 (by omega)
    rw [hp _ h] at this
    cases this
  · exact h
  · have := h2 k h
    rw [h0] at this
    cases this
theorem firstI_congr {ok ok' : Nat → Bool} {n : Nat} (h : ∀ i, i < n → (∀ j, j < i → ok j = true) → ok' i = ok i) : firstI ok' n = firstI ok n := by
  obtain ⟨h1, h2, h3⟩ := firstI_facts ok n
  have hp : ∀ j, j < firstI ok n → ok' j = true := fun j hj => by rw [h j (by omega) fun i hi => h2 i (by omega)]; exact h2 j hj
  rcases Nat.lt_or_ge (firstI ok n) n with hl | hl
  · exact firstI_at hl (by rw [h _ hl h2]; exact h3 hl) hp
  · have he : firstI ok n = n := by omega
    rw [he]
    rw [he] at hp
    exact firstI_all.2 hp
theorem loop_first {S E : Type} {f : S → Option (S ⊕ E)} (st : Nat → S) {n : Nat} (ok : Nat → Bool) {e : E} {r : Nat → E}
    (step : ∀ i, i < n → (∀ j, j < i → ok j = true) → f (st i) = some (if ok i = true then .inl (st (i + 1)) else .inr (r i)))
    (out : (∀ j, j < n → ok j = true) → f (st n) = some (.inr e)) : loopD f (st 0) = some (if firstI ok n < n then r (firstI ok n) else e) := by
  rcases loop_index st ok step out with ⟨h, hl⟩ | ⟨k, hk, h0, hp, hl⟩
  · rw [hl, if_neg (by rw [firstI_all.2 h]; omega)]
  · rw [hl, firstI_at hk h0 hp, if_pos hk]

/-- What holds of a place, if it is there. -/
def optT {α : Type} (p : α → Bool) : Option α → Bool | some x => p x | none => true
theorem optT_in {α : Type} {p : α → Bool} {l : List α} {i : Nat} (h : i < l.length) : optT p l[i]? = p l[i] := by rw [List.getElem?_eq_getElem h]; rfl
theorem any_range {α : Type} {p : α → Bool} {l : List α} : l.any p = !(List.range l.length).all fun i => optT (fun x => !p x) l[i]? := by
  rw [Bool.eq_iff_iff]
  simp only [List.any_eq_true, Bool.not_eq_true']
  constructor
  · rintro ⟨x, hx, hp⟩
    obtain ⟨i, hi, rfl⟩ := List.getElem_of_mem hx
    rw [List.all_eq_false]
    exact ⟨i, List.mem_range.2 hi, by rw [optT_in hi]; simp [hp]⟩
  · intro h
    rw [List.all_eq_false] at h
    obtain ⟨i, hi, hp⟩ := h
    have hi := List.mem_range.1 hi
    rw [optT_in hi] at hp
    exact ⟨l[i], List.getElem_mem hi, by simpa using hp⟩
theorem all_range {α : Type} {p : α → Bool} {l : List α} : l.all p = (List.range l.length).all fun i => optT p l[i]? := by
  rw [Bool.eq_iff_iff, range_all]
  simp only [List.all_eq_true]
  constructor
  · intro h i hi
    rw [optT_in hi]
    exact h _ (List.getElem_mem hi)
  · intro h x hx
    obtain ⟨i, hi, rfl⟩ := List.getElem_of_mem hx
    have := h i hi
    rwa [optT_in hi] at this

/-! ### Entries of a map -/
theorem mfind_put {α β : Type} (dec : DecidableEq α) (k k' : α) (v : β) : ∀ l : List (α × β), mfindT dec k' (mputT dec k v l) = bif @decide (k' = k) (dec k' k) then some v else mfindT dec k' l
  | [] => by simp only [mputT, mfindT]
  | p :: l => by
    simp only [mputT, mfindT]
    by_cases h : k = p.1
    · simp only [h, decide_true, cond_true, mfindT]
      by_cases h' : k' = p.1 <;> simp [h']
    · simp only [h, decide_false, cond_false, mfindT, mfind_put dec k k' v l]
      by_cases h' : k' = p.1
      · have : ¬ k' = k := fun e => h (e ▸ h')
        simp [h', Ne.symm h]
      · simp [h']
theorem mget_put {α β : Type} (dec : DecidableEq α) (z v : β) (k k' : α) (l : List (α × β)) : mgetT dec z (mputT dec k v l) k' = bif @decide (k' = k) (dec k' k) then v else mgetT dec z l k' := by
  unfold mgetT
  rw [mfind_put]
  cases @decide (k' = k) (dec k' k) <;> rfl
theorem mhas_put {α β : Type} (dec : DecidableEq α) (v : β) (k k' : α) (l : List (α × β)) : mhasT dec (mputT dec k v l) k' = (@decide (k' = k) (dec k' k) || mhasT dec l k') := by
  unfold mhasT
  rw [mfind_put]
  cases @decide (k' = k) (dec k' k) <;> rfl
theorem mget_nil {α β : Type} (dec : DecidableEq α) (z : β) (k : α) : mgetT dec z [] k = z := rfl
theorem mhas_nil {α β : Type} (dec : DecidableEq α) (k : α) : mhasT dec ([] : List (α × β)) k = false := rfl


/-! ### Lists behind one another -/
theorem appvO_step {α : Type} {b : Nat} {buf x : List α} {p : Nat} (hp : p ≤ buf.length) (hr : p + x.length ≤ 1000000) (hb : b ≤ 10000) :
    ∃ buf', appvO b buf (p : Int) x = some buf' ∧ buf'.take (p + x.length) = buf.take p ++ x ∧ p + x.length ≤ buf'.length := by
  refine ⟨buf.take p ++ (x ++ buf.drop (p + x.length)), ?_, ?_, ?_⟩
  · unfold appvO
    rw [if_pos ⟨by omega, by omega, by simpa using room_small hr hb⟩]
    simp
  · rw [← List.append_assoc, List.take_append_of_le_length (by rw [List.length_append, List.length_take]; omega), List.take_of_length_le (by rw [List.length_append, List.length_take]; omega)]
  · simp only [List.length_append, List.length_take, List.length_drop]
    omega

theorem concat_sum {α : Type} {f : (Int × Int) → Option ((Int × Int) ⊕ Int)} {xs : List (List α)}
    (step : ∀ (i : Nat) (h : i < xs.length) (s : Nat), s + xs[i].length ≤ 1000000 → f ((s : Int), (i : Int)) = some (.inl (((s + xs[i].length : Nat) : Int), ((i + 1 : Nat) : Int))))
    (out : ∀ s : Nat, f ((s : Int), (xs.length : Int)) = some (.inr (s : Int))) (ht : xs.flatten.length ≤ 1000000) : loopD f ((0 : Int), (0 : Int)) = some (xs.flatten.length : Int) := by
  have hle : ∀ i, (xs.take i).flatten.length ≤ xs.flatten.length := fun i => by
    have : xs.flatten = (xs.take i).flatten ++ (xs.drop i).flatten := by rw [← List.flatten_append, List.take_append_drop]
    rw [this, List.length_append]
    omega
  have lp := loop_good (f := f) (n := xs.length) (e := (xs.flatten.length : Int)) (fun i => (((xs.take i).flatten.length : Int), (i : Int))) (fun i hi => by
    have e : (xs.take (i + 1)).flatten.length = (xs.take i).flatten.length + xs[i].length := by rw [take_succ_get hi, List.flatten_append, List.length_append]; simp
    have := hle (i + 1)
    rw [step i hi _ (by omega), e]) (by
    rw [List.take_length]
    exact out _)
  exact lp
theorem concat_put {α : Type} {b : Nat} (hb : b ≤ 10000) {f : (Int × Int × List α) → Option ((Int × Int × List α) ⊕ (Int × List α))} {xs : List (List α)}
    (step : ∀ (i : Nat) (h : i < xs.length) (p : Nat) (buf buf' : List α), appvO b buf (p : Int) xs[i] = some buf' → f ((p : Int), (i : Int), buf) = some (.inl (((p + xs[i].length : Nat) : Int), ((i + 1 : Nat) : Int), buf')))
    (out : ∀ (p : Nat) (buf : List α), f ((p : Int), (xs.length : Int), buf) = some (.inr ((p : Int), buf))) (ht : xs.flatten.length ≤ 1000000) (buf0 : List α) :
    ∃ buf, loopD f ((0 : Int), (0 : Int), buf0) = some ((xs.flatten.length : Int), buf) ∧ subO buf (0 : Int) (xs.flatten.length : Int) = some xs.flatten := by
  have hle : ∀ i, (xs.take i).flatten.length ≤ xs.flatten.length := fun i => by
    have : xs.flatten = (xs.take i).flatten ++ (xs.drop i).flatten := by rw [← List.flatten_append, List.take_append_drop]
    rw [this, List.length_append]
    omega
  have lp := loop_rule (f := f) (fun s => ∃ (i : Nat) (buf : List α), i ≤ xs.length ∧ s = (((xs.take i).flatten.length : Int), (i : Int), buf) ∧ buf.take (xs.take i).flatten.length = (xs.take i).flatten ∧ (xs.take i).flatten.length ≤ buf.length) (fun s => xs.length - s.2.1.toNat)
    (fun r => ∃ buf : List α, r = ((xs.flatten.length : Int), buf) ∧ buf.take xs.flatten.length = xs.flatten ∧ xs.flatten.length ≤ buf.length) (fun s hs => by
      obtain ⟨i, buf, hi, rfl, h1, h2⟩ := hs
      rcases Nat.lt_or_ge i xs.length with hil | hil
      · left
        have e : (xs.take (i + 1)).flatten = (xs.take i).flatten ++ xs[i] := by rw [take_succ_get hil, List.flatten_append]; simp
        have el : (xs.take (i + 1)).flatten.length = (xs.take i).flatten.length + xs[i].length := by rw [e, List.length_append]
        have := hle (i + 1)
        obtain ⟨buf', g1, g2, g3⟩ := appvO_step (b := b) (buf := buf) (x := xs[i]) h2 (by omega) hb
        refine ⟨_, step i hil _ _ _ g1, ⟨i + 1, buf', by omega, by rw [el], by rw [el, g2, h1, e], by omega⟩, by simp only [Int.toNat_natCast]; omega⟩
      · right
        have : i = xs.length := by omega
        subst this
        rw [List.take_length] at h1 h2 ⊢
        exact ⟨_, out _ _, buf, rfl, h1, h2⟩) (s := ((0 : Int), (0 : Int), buf0)) ⟨0, buf0, Nat.zero_le _, by simp, by simp, by simp⟩
  obtain ⟨r, hr, buf, rfl, h1, h2⟩ := lp
  refine ⟨buf, hr, ?_⟩
  have := subO_in (l := buf) (i := 0) (j := xs.flatten.length) (by omega) h2
  rw [List.drop_zero, h1] at this
  exact this
theorem concat_room {α : Type} {z : α} {b n : Nat} (hn : n ≤ 1000000) (hb : b ≤ 10000) : ∃ buf0 : List α, ((if decide ((0 : Int) < (n : Int)) = true then (zextO z b ([] : List α) (n : Int)).bind fun v13 => (rngO (List.length v13 : Int) (0 : Int) (0 : Int)).bind fun v15 => some ((v15, v13)) else some (((0 : Int), ([] : List α)))) : Option (Int × List α)) = some ((0 : Int), buf0) := by
  by_cases h : (0 : Int) < (n : Int)
  · refine ⟨List.replicate n z, ?_⟩
    have h1 : zextO z b ([] : List α) (n : Int) = some (List.replicate n z) := by
      unfold zextO
      rw [if_pos (by omega), Int.toNat_natCast, appO_small (by simp; omega) hb]
      rfl
    have h2 : rngO (List.length (List.replicate n z) : Int) (0 : Int) (0 : Int) = some 0 := by unfold rngO; rw [if_pos (by omega)]
    simp only [h, decide_true, if_true, h1, Option.bind_some, h2]
  · exact ⟨[], by simp only [h, decide_false, Bool.false_eq_true, if_false]⟩

/-! ### What is kept of a list, in place -/
theorem del_loop {α : Type} {f : (Int × Int × List α) → Option ((Int × Int × List α) ⊕ (Int × List α))} {l : List α} {keep : α → Bool}
    (step : ∀ (i j : Nat) (m : List α) (h : j < m.length), i < j → m.length = l.length → f ((i : Int), (j : Int), m) = some (.inl (if keep m[j] = true then (((i + 1 : Nat) : Int), ((j + 1 : Nat) : Int), m.set i m[j]) else ((i : Int), ((j + 1 : Nat) : Int), m))))
    (out : ∀ (i : Nat) (m : List α), m.length = l.length → f ((i : Int), (m.length : Int), m) = some (.inr ((i : Int), m))) {k : Nat} (hk : k < l.length) (hpre : ∀ (i : Nat) (h : i < l.length), i < k → keep l[i] = true) (hno : keep l[k] = false) :
    ∃ (i : Nat) (m : List α), loopD f ((k : Int), ((k + 1 : Nat) : Int), l) = some ((i : Int), m) ∧ i ≤ m.length ∧ m.length = l.length ∧ m.take i = l.filter keep := by
  have main : ∀ (d i j : Nat) (m : List α), l.length - j = d → j ≤ l.length → i < j → m.length = l.length → m.take i = (l.take j).filter keep → m.drop j = l.drop j →
      ∃ (i' : Nat) (m' : List α), loopD f ((i : Int), (j : Int), m) = some ((i' : Int), m') ∧ i' ≤ m'.length ∧ m'.length = l.length ∧ m'.take i' = l.filter keep := by
    intro d
    induction d with
    | zero =>
      intro i j m hd hj hij hm h1 h2
      have hjl : j = m.length := by omega
      subst hjl
      exact ⟨i, m, loop_out (out i m hm), by omega, hm, by rw [h1, hm, List.take_length]⟩
    | succ d ih =>
      intro i j m hd hj hij hm h1 h2
      have hjm : j < m.length := by omega
      have hjl : j < l.length := by omega
      have hx : m[j] = l[j] := by
        have e : (m.drop j)[0]? = (l.drop j)[0]? := by rw [h2]
        rw [List.getElem?_drop, List.getElem?_drop, Nat.add_zero, List.getElem?_eq_getElem hjm, List.getElem?_eq_getElem hjl] at e
        exact Option.some.inj e
      have hd2 : m.drop (j + 1) = l.drop (j + 1) := by
        have e : (m.drop j).drop 1 = (l.drop j).drop 1 := by rw [h2]
        rwa [List.drop_drop, List.drop_drop] at e
      rw [loop_next (step i j m hjm hij hm)]
      rw [hx]
      have htk : (l.take (j + 1)).filter keep = (l.take j).filter keep ++ (if keep l[j] = true then [l[j]] else []) := by
        rw [take_succ_get hjl, List.filter_append]
        simp only [List.filter_cons, List.filter_nil]
      by_cases hke : keep l[j] = true
      · rw [if_pos hke]
        refine ih (i + 1) (j + 1) (m.set i l[j]) (by omega) (by omega) (by omega) (by simpa using hm) ?_ ?_
        · rw [htk, if_pos hke, ← h1]
          have him : i < (m.set i l[j]).length := by simp; omega
          rw [take_succ_get him]
          simp [List.take_set_of_le]
        · rw [List.drop_set_of_lt (by omega)]
          exact hd2
      · rw [if_neg hke]
        exact ih i (j + 1) m (by omega) (by omega) (by omega) hm (by rw [htk, if_neg hke, List.append_nil]; exact h1) hd2
  refine main (l.length - (k + 1)) k (k + 1) l rfl (by omega) (by omega) rfl ?_ rfl
  rw [take_succ_get hk, List.filter_append]
  simp only [List.filter_cons, List.filter_nil, hno, Bool.false_eq_true, if_false, List.append_nil]
  rw [List.filter_eq_self.2]
  intro x hx
  obtain ⟨i, hi, rfl⟩ := List.getElem_of_mem hx
  rw [List.getElem_take]
  rw [List.length_take] at hi
  exact hpre i (by omega) (by omega)
theorem del_tail {α : Type} {m : List α} {i : Nat} {z : α} (hi : i ≤ m.length) :
    ((rngO (List.length m : Int) (i : Int) (List.length m : Int)).bind fun v13 => (subO m (i : Int) v13).bind fun v14 => (cpyvO m (i : Int) v13 (List.replicate (List.length v14) z)).bind fun v16 =>
      (rngO (List.length v16 : Int) (0 : Int) (i : Int)).bind fun v18 => some ((v18, v16)) : Option (Int × List α)) = some ((i : Int), m.take i ++ List.replicate (m.length - i) z) := by
  have h1 : rngO (List.length m : Int) (i : Int) (List.length m : Int) = some (m.length : Int) := by unfold rngO; rw [if_pos (by omega)]
  have h2 : subO m (i : Int) (m.length : Int) = some (m.drop i) := by rw [subO_in hi (Nat.le_refl _), List.take_length]
  have h3 : cpyvO m (i : Int) (m.length : Int) (List.replicate (m.drop i).length z) = some (m.take i ++ List.replicate (m.length - i) z) := by
    unfold cpyvO
    rw [if_pos (by omega)]
    have e1 : ((m.length : Int) - (i : Int)).toNat = m.length - i := by omega
    simp only [e1, Int.toNat_natCast, List.length_drop, List.take_replicate, Nat.min_self, List.length_replicate]
    rw [show i + (m.length - i) = m.length by omega, List.drop_length, List.append_nil]
  have h4 : ∀ x : List α, i ≤ x.length → rngO (List.length x : Int) (0 : Int) (i : Int) = some (i : Int) := fun x hx => by unfold rngO; rw [if_pos (by omega)]
  rw [h1, Option.bind_some, h2, Option.bind_some, h3, Option.bind_some, h4 _ (by simp; omega), Option.bind_some]
theorem del_take {α : Type} {m : List α} {i k : Nat} {z : α} (hi : i ≤ m.length) : (m.take i ++ List.replicate k z).take i = m.take i := by
  have : (m.take i).length = i := by rw [List.length_take]; omega
  rw [List.take_append_of_le_length (by omega), List.take_take, Nat.min_self]

end Go.Proofs.Ytflnpiknckdmfaa
