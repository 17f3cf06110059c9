/- Layer 23: the law FairMade on typed data. -/
import Derived.Test.YtflnpiknckdmfaaP23b
import Derived.Test.YtflnpiknckdmfaaD233
set_option linter.unusedSimpArgs false
set_option linter.unusedVariables false
namespace Go.Proofs.Ytflnpiknckdmfaa
open Go.SX

/-- In a round there is all that must be, and but for the first place nothing of core 0. -/
def chk (c f : Nat) : Bool := (mustL c).all (fun x => (roundL c f).any (hitE x)) && ((roundL c f).drop 1).all (fun e => !hitE (Event.mk 1 0 0) e)
theorem chk_all : ∀ c, c < 4 → ∀ f, f < 9 → chk (c + 1) (f + 1) = true := by decide

theorem manyL_get {α : Type} (x : List α) (hx : 0 < x.length) : ∀ (n j : Nat), j < n * x.length → (manyL x n)[j]? = x[j % x.length]?
  | 0, j, h => by omega
  | n + 1, j, h => by
    have h1 : manyL x (n + 1) = x ++ manyL x n := by simp [manyL, List.replicate_succ]
    rw [h1]
    rw [Nat.succ_mul] at h
    by_cases hj : j < x.length
    · rw [List.getElem?_append_left hj, Nat.mod_eq_of_lt hj]
    · rw [List.getElem?_append_right (by omega), manyL_get x hx n (j - x.length) (by omega), Nat.mod_eq_sub_mod (show j ≥ x.length by omega)]

theorem most_turns (c r f : Nat) (h1 : 1 ≤ c) (h2 : c ≤ 4) (h3 : 1 ≤ r) (h4 : 1 ≤ f) (h5 : f ≤ 9) : mostG (manyL (roundL c f) r) c + 1 = c + f + 2 := by
  have hk := chk_all (c - 1) (by omega) (f - 1) (by omega)
  rw [show c - 1 + 1 = c by omega, show f - 1 + 1 = f by omega] at hk
  unfold chk at hk
  rw [Bool.and_eq_true, List.all_eq_true, List.all_eq_true] at hk
  obtain ⟨k1, k2⟩ := hk
  have hrl := roundL_len c f
  have hml := manyL_len (roundL c f) r
  have hge : c + f + 2 ≤ (manyL (roundL c f) r).length := by
    rw [hml, hrl]
    have := Nat.mul_le_mul_right (c + f + 2) h3
    omega
  have hit : ∀ x j, j < (manyL (roundL c f) r).length → hitAt x (manyL (roundL c f) r) j = hitAt x (roundL c f) (j % (c + f + 2)) := fun x j hj => by
    unfold hitAt
    rw [manyL_get _ (by omega) r j (by omega), hrl]
  have up : mostG (manyL (roundL c f) r) c < c + f + 2 := by
    rw [mostG_lt (by omega)]
    intro x hx
    rw [isGap_lt (gapN_gap x _)]
    intro a ha hf
    obtain ⟨e, he, hh⟩ := List.any_eq_true.1 (k1 x hx)
    obtain ⟨t, ht, rfl⟩ := List.getElem_of_mem he
    rw [hrl] at ht
    have hm := Nat.mod_lt a (show 0 < c + f + 2 by omega)
    have hd := Nat.div_add_mod a (c + f + 2)
    have fin : ∀ j, a ≤ j → j < a + (c + f + 2) → j % (c + f + 2) = t → False := fun j hj1 hj2 hj3 => by
      have h6 := hf j hj1 hj2
      rw [hit x j (by omega), hj3, hitAt_in (by omega), hh] at h6
      cases h6
    by_cases hge2 : a % (c + f + 2) ≤ t
    · refine fin (a + (t - a % (c + f + 2))) (by omega) (by omega) ?_
      have : a + (t - a % (c + f + 2)) = t + (c + f + 2) * (a / (c + f + 2)) := by omega
      rw [this, Nat.add_mul_mod_self_left, Nat.mod_eq_of_lt ht]
    · refine fin (a + (t + (c + f + 2) - a % (c + f + 2))) (by omega) (by omega) ?_
      have : a + (t + (c + f + 2) - a % (c + f + 2)) = t + (c + f + 2) * (a / (c + f + 2) + 1) := by
        rw [Nat.mul_add]; omega
      rw [this, Nat.add_mul_mod_self_left, Nat.mod_eq_of_lt ht]
  have down : ¬ mostG (manyL (roundL c f) r) c < c + f + 1 := by
    rw [mostG_lt (by omega)]
    intro h
    have hx : Event.mk 1 0 0 ∈ mustL c := by
      unfold mustL
      refine List.mem_append_right _ (List.mem_map.2 ⟨0, List.mem_range.2 (by omega), rfl⟩)
    have h6 := (isGap_lt (gapN_gap (Event.mk 1 0 0) _)).1 (h _ hx) 1 (by omega)
    refine h6 fun j hj1 hj2 => ?_
    rw [hit _ j (by omega), Nat.mod_eq_of_lt (by omega), hitAt_in (by omega)]
    have h7 := k2 (roundL c f)[j] (by
      have h8 : ((roundL c f).drop 1)[j - 1]'(by simp; omega) = (roundL c f)[j] := by
        rw [List.getElem_drop]; congr 1; omega
      rw [← h8]
      exact List.getElem_mem _)
    simpa using h7
  omega

theorem free_sub {l : List Event} {x : Event} {a b : Nat} (h1 : a ≤ b) (h2 : b ≤ l.length) : gapN x ((l.take b).drop a) ≤ gapN x l := by
  obtain ⟨s, hs, hf⟩ := (gapN_gap x ((l.take b).drop a)).some_
  have hlen : ((l.take b).drop a).length = b - a := by simp; omega
  refine (gapN_gap x l).most (a + s) _ (by omega) fun j hj1 hj2 => ?_
  have := hf (j - a) (by omega) (by omega)
  unfold hitAt at this ⊢
  rw [List.getElem?_drop, List.getElem?_take, if_pos (by omega), show a + (j - a) = j by omega] at this
  exact this
theorem most_sub {l : List Event} {c a b : Nat} (h1 : a ≤ b) (h2 : b ≤ l.length) : mostG ((l.take b).drop a) c ≤ mostG l c := by
  have h3 := (mostG_lt (l := l) (c := c) (b := mostG l c + 1) (by omega)).1 (by omega)
  have := (mostG_lt (l := (l.take b).drop a) (c := c) (b := mostG l c + 1) (by omega)).2 fun x hx => by
    have h4 := h3 x hx
    have h5 := free_sub (l := l) (x := x) h1 h2
    omega
  omega

theorem fairMade_all (l : List Event) (p1 p2 p3 p4 p5 p6 : Int) (w1 : 0 ≤ p1 ∧ p1 < 256) (w2 : 0 ≤ p2 ∧ p2 < 256) (w3 : 0 ≤ p3 ∧ p3 < 256) (w4 : 0 ≤ p4 ∧ p4 < 256) (w5 : 0 ≤ p5 ∧ p5 < 256) (w6 : 0 ≤ p6 ∧ p6 < 256) : l23_FairMade l p1 p2 p3 p4 p5 p6 = some true := by
  unfold l23_FairMade
  by_cases hc : (120 : Int) < (l.length : Int)
  · simp only [l23_awake, Bool.not_true, Bool.false_eq_true, if_false, hc, decide_true, if_true]
  · have hl : l.length ≤ 100000 := by omega
    obtain ⟨r1, a1, b1⟩ := rem_pos w1.1 (show (0 : Int) < 4 by omega)
    obtain ⟨r2, a2, b2⟩ := rem_pos w2.1 (show (0 : Int) < 20 by omega)
    obtain ⟨r3, a3, b3⟩ := rem_pos w3.1 (show (0 : Int) < 9 by omega)
    obtain ⟨r6, a6, b6⟩ := rem_pos w6.1 (show (0 : Int) < 40 by omega)
    have hw4 : w64 p4 = p4 := w64_id (by omega) (by omega)
    have hw5 : w64 p5 = p5 := w64_id (by omega) (by omega)
    have hwl : w64 ((List.length l : Int) + 1) = ((l.length + 1 : Nat) : Int) := w64_succ (by omega)
    obtain ⟨r4, a4, b4⟩ := rem_pos w4.1 (show (0 : Int) < ((l.length + 1 : Nat) : Int) by omega)
    obtain ⟨r5, a5, b5⟩ := rem_pos w5.1 (show (0 : Int) < ((l.length + 1 : Nat) : Int) by omega)
    obtain ⟨n, hn⟩ : ∃ n : Nat, p1 % 4 = (n : Int) := ⟨(p1 % 4).toNat, by omega⟩
    obtain ⟨k, hk⟩ : ∃ n : Nat, p2 % 20 = (n : Int) := ⟨(p2 % 20).toNat, by omega⟩
    obtain ⟨m, hm⟩ : ∃ n : Nat, p3 % 9 = (n : Int) := ⟨(p3 % 9).toNat, by omega⟩
    obtain ⟨w, hw⟩ : ∃ n : Nat, p6 % 40 = (n : Int) := ⟨(p6 % 40).toNat, by omega⟩
    obtain ⟨x, hx⟩ : ∃ n : Nat, p4 % ((l.length + 1 : Nat) : Int) = (n : Int) := ⟨(p4 % ((l.length + 1 : Nat) : Int)).toNat, by omega⟩
    obtain ⟨y, hy⟩ : ∃ n : Nat, p5 % ((l.length + 1 : Nat) : Int) = (n : Int) := ⟨(p5 % ((l.length + 1 : Nat) : Int)).toNat, by omega⟩
    rw [hn] at r1 b1
    rw [hk] at r2 b2
    rw [hm] at r3 b3
    rw [hw] at r6 b6
    rw [hx] at r4 b4
    rw [hy] at r5 b5
    have e1 : w64 (w64 (n : Int) + 1) = ((n + 1 : Nat) : Int) := by rw [w64_nat (by omega), w64_succ (by omega)]
    have e2 : w64 (w64 (k : Int) + 2) = ((k + 2 : Nat) : Int) := by rw [w64_nat (by omega), w64_id (by omega) (by omega)]; omega
    have e3 : w64 (w64 (m : Int) + 1) = ((m + 1 : Nat) : Int) := by rw [w64_nat (by omega), w64_succ (by omega)]
    have e6 : w64 (w64 (w : Int) + 1) = ((w + 1 : Nat) : Int) := by rw [w64_nat (by omega), w64_succ (by omega)]
    have e7 : w64 (w64 (((n + 1 : Nat) : Int) + ((m + 1 : Nat) : Int)) + 2) = ((n + 1 + (m + 1) + 2 : Nat) : Int) := by rw [w64_id (n := ((n + 1 : Nat) : Int) + ((m + 1 : Nat) : Int)) (by omega) (by omega), w64_id (by omega) (by omega)]; omega
    have ht := fair_Turns_eq (n + 1) (k + 2) (m + 1) (by omega) (by omega) (by omega) (by omega)
    have htl : (manyL (roundL (n + 1) (m + 1)) (k + 2)).length = (k + 2) * (n + 1 + (m + 1) + 2) := by rw [manyL_len, roundL_len]
    have hb : (k + 2) * (n + 1 + (m + 1) + 2) ≤ 100 * 106 := Nat.mul_le_mul (by omega) (by omega)
    have e8 : w64 (((k + 2 : Nat) : Int) * ((n + 1 + (m + 1) + 2 : Nat) : Int)) = (((k + 2) * (n + 1 + (m + 1) + 2) : Nat) : Int) := by
      rw [← Int.natCast_mul]; exact w64_nat (by omega)
    have hmt := most_turns (n + 1) (k + 2) (m + 1) (by omega) (by omega) (by omega) (by omega) (by omega)
    have g1 : fair_Is (manyL (roundL (n + 1) (m + 1)) (k + 2)) ((n + 1 : Nat) : Int) ((n + 1 + (m + 1) + 2 : Nat) : Int) = some true := by
      rw [fair_Is_eq _ (n + 1) (by omega) (by omega) (by omega)]
      unfold isN
      congr 1
      exact decide_eq_true (by omega)
    have g2 : fair_Least (manyL (roundL (n + 1) (m + 1)) (k + 2)) ((n + 1 : Nat) : Int) = some ((n + 1 + (m + 1) + 2 : Nat) : Int) := by
      rw [fair_Least_eq _ (n + 1) (by omega) (by omega) (by omega), hmt]
    have g3 : ∀ b, fair_Is l ((n + 1 : Nat) : Int) b = some (isN l (n + 1) b) := fair_Is_eq l (n + 1) (by omega) (by omega) hl
    have g4 := fair_Least_eq l (n + 1) (by omega) (by omega) hl
    have hlen : ((List.length (manyL (roundL (n + 1) (m + 1)) (k + 2)) : Nat) : Int) = (((k + 2) * (n + 1 + (m + 1) + 2) : Nat) : Int) := by rw [htl]
    have e9 : w64 (((w + 1 : Nat) : Int) + 1) = ((w + 2 : Nat) : Int) := by rw [w64_succ (by omega)]
    simp only [l23_awake, Bool.not_true, Bool.false_eq_true, if_false, hc, decide_false, r1, r2, r3, r6, Option.bind_some, e1, e2, e3, e6, e7, e8, ht, hlen, decide_true, g1, g2, g3, g4, hw4, hw5, hwl, r4, r5, e9]
    cases hi : isN l (n + 1) ((w + 1 : Nat) : Int)
    · simp only [Bool.not_false, if_true]
      unfold isN at hi
      have := of_decide_eq_false hi
      congr 1
      exact decide_eq_true (by omega)
    · unfold isN at hi
      have hi' := of_decide_eq_true hi
      have hi2 : isN l (n + 1) ((w + 2 : Nat) : Int) = true := by unfold isN; exact decide_eq_true (by omega)
      have hs : subO l (minT (x : Int) (y : Int)) (maxT (x : Int) (y : Int)) = some ((l.take (max x y)).drop (min x y)) := by
        rw [minT_nat, maxT_nat]
        exact subO_in (by omega) (by omega)
      have hms := most_sub (l := l) (c := n + 1) (a := min x y) (b := max x y) (by omega) (by omega)
      have g5 : fair_Is ((l.take (max x y)).drop (min x y)) ((n + 1 : Nat) : Int) ((w + 1 : Nat) : Int) = some true := by
        rw [fair_Is_eq _ (n + 1) (by omega) (by omega) (by simp; omega)]
        unfold isN
        congr 1
        exact decide_eq_true (by omega)
      simp only [Bool.not_true, Bool.false_eq_true, if_false, hi2, if_true, hs, g5, Option.bind_some]
      by_cases hlw : (l.length : Int) < ((w + 1 : Nat) : Int)
      · simp only [hlw, decide_true, if_true, Option.bind_some]
      · simp only [hlw, decide_false, Bool.false_eq_true, if_false, Option.bind_some]
        exact congrArg some (decide_eq_true (by omega))

theorem fairMade_ok (x : Ty.Tup F_l23_FairMade.ps) (h : OkL F_l23_FairMade.ps x) : F_l23_FairMade.sem x = some true :=
  fairMade_all x.1 x.2.1 x.2.2.1 x.2.2.2.1 x.2.2.2.2.1 x.2.2.2.2.2.1 x.2.2.2.2.2.2
    ⟨h.2.1.1, Int.lt_of_le_of_lt h.2.1.2 (by decide)⟩ ⟨h.2.2.1.1, Int.lt_of_le_of_lt h.2.2.1.2 (by decide)⟩ ⟨h.2.2.2.1.1, Int.lt_of_le_of_lt h.2.2.2.1.2 (by decide)⟩
    ⟨h.2.2.2.2.1.1, Int.lt_of_le_of_lt h.2.2.2.2.1.2 (by decide)⟩ ⟨h.2.2.2.2.2.1.1, Int.lt_of_le_of_lt h.2.2.2.2.2.1.2 (by decide)⟩ ⟨h.2.2.2.2.2.2.1, Int.lt_of_le_of_lt h.2.2.2.2.2.2.2 (by decide)⟩

end Go.Proofs.Ytflnpiknckdmfaa
