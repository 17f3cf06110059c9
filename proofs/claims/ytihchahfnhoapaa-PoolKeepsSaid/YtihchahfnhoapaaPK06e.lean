/- Layer 6: what is counted of turned bits; exact specs for PoolKeeps. -/
import Derived.Test.YtihchahfnhoapaaPK06d
set_option linter.unusedSimpArgs false
set_option linter.unusedVariables false
namespace Go.Proofs.Ytihchahfnhoapaa
open Go.SX

theorem twice_is (p : Pool) (hp : goodP p) (k : Nat) (h2 : k < (Pool.Frames p).length) (h3 : poolB p = true) : pool_Twice p (k : Int) = some (if 64 ≤ (Pool.Frames p).length then (p, 6) else (Pool.mk (Pool.Frames p ++ [(Pool.Frames p)[k]]), 0)) := by
  have hsp := good_small hp
  have heta : Pool.mk (Pool.Frames p) = p := rfl
  have hcp := copy_loop (f := pool_Twice_L1 (Pool.Frames p) (List.length (Pool.Frames p) : Int)) (fr := Pool.Frames p) (fun s => rfl) hsp.1 hsp.2
  have h4 := pool_has_eq p hp.1 (k : Int)
  rw [h3, if_pos rfl, if_neg (by omega)] at h4
  unfold pool_Twice
  obtain ⟨g1, g2⟩ := poolB_iff.1 h3
  have hroom := pool_Room_eq p hp.1
  rw [h3, if_pos rfl] at hroom
  have hbg := hp.2 _ (List.getElem_mem h2)
  by_cases h64 : 64 ≤ (Pool.Frames p).length
  · rw [if_pos h64]
    have he : (64 : Int) - ((Pool.Frames p).length : Int) = 0 := by omega
    simp only [h4, Option.bind_some, decide_true, Bool.not_true, Bool.false_eq_true, if_false, hcp, heta, getO_in h2, hroom, he, if_true]
  · rw [if_neg h64]
    have hne : ¬ (64 : Int) - ((Pool.Frames p).length : Int) = 0 := by omega
    have hc : cloneO 1 (Pool.Frames p)[k] = some (Pool.Frames p)[k] := cloneO_small (by have := hbg.1; omega) (by omega)
    have ha : appO 24 (Pool.Frames p) ([(Pool.Frames p)[k]] : List (List Int)) = some (Pool.Frames p ++ [(Pool.Frames p)[k]]) := appO_small (by simp; omega) (by omega)
    simp only [h4, Option.bind_some, decide_true, Bool.not_true, Bool.false_eq_true, if_false, hcp, heta, getO_in h2, hroom, hne, decide_false, hc, ha]
theorem spoil_is (p : Pool) (hp : goodP p) (k : Nat) (h2 : k < (Pool.Frames p).length) (h3 : poolB p = true) (t : Nat) (ht : t < 152) {c : List Nat} (hc : (Pool.Frames p)[k] = castL c) (hby : Byte19 c) : pool_Spoil p (k : Int) (t : Int) = some (Pool.mk ((Pool.Frames p).set k (castL (xorL c (unitN t)))), 0) := by
  have hsp := good_small hp
  have hcp := copy_loop (f := pool_Twice_L1 (Pool.Frames p) (List.length (Pool.Frames p) : Int)) (fr := Pool.Frames p) (fun s => rfl) hsp.1 hsp.2
  have h4 := pool_has_eq p hp.1 (k : Int)
  rw [h3, if_pos rfl, if_neg (by omega)] at h4
  have c1 : ((decide ((t : Int) < (0 : Int))) || (decide ((152 : Int) ≤ (t : Int)))) = false := by
    rw [Bool.eq_false_iff]; intro q; simp only [Bool.or_eq_true, decide_eq_true_eq] at q; omega
  have hg : getO (Pool.Frames p) (k : Int) = some (castL c) := by rw [getO_in h2, hc]
  have hix : idxO (List.length (Pool.Frames p) : Int) (k : Int) = some (k : Int) := idxO_in h2
  have hcl : (castL c).length = 19 := by rw [castL_len, hby.len]
  have ht8 : t / 8 < (castL c).length := by omega
  have hib : idxO (List.length (castL c) : Int) ((t / 8 : Nat) : Int) = some ((t / 8 : Nat) : Int) := idxO_in ht8
  have hq := quo8' t ht
  have hr : remO (t : Int) (8 : Int) = some ((t % 8 : Nat) : Int) := rem_is t 8 (by omega)
  have hsh := shl_bit' (t % 8) (by omega)
  have hlc := hby.len
  have hgd : c.getD (t / 8) 0 = c[t / 8]'(by omega) := by rw [List.getD_eq_getElem?_getD, List.getElem?_eq_getElem (by omega)]; rfl
  have hgb : getO (castL c) ((t / 8 : Nat) : Int) = some ((c.getD (t / 8) 0 : Nat) : Int) := by
    rw [getO_in ht8, castL_get (by omega), hgd]
  have hx : bXor .u8 ((c.getD (t / 8) 0 : Nat) : Int) ((2 ^ (t % 8) : Nat) : Int) = ((c.getD (t / 8) 0 ^^^ 2 ^ (t % 8) : Nat) : Int) := xor_is8 _ _ (getD_lt hby _) (pow8 t)
  have hsb : setO (castL c) ((t / 8 : Nat) : Int) ((c.getD (t / 8) 0 ^^^ 2 ^ (t % 8) : Nat) : Int) = some (castL (xorL c (unitN t))) := by
    rw [setO_in ht8, ← turn_is hby t ht]
    unfold castL
    rw [List.map_set]
  have hsp2 : setO (Pool.Frames p) (k : Int) (castL (xorL c (unitN t))) = some ((Pool.Frames p).set k (castL (xorL c (unitN t)))) := setO_in h2
  unfold pool_Spoil
  simp only [h4, Option.bind_some, decide_true, c1, Bool.and_false, cond_false, if_true, hcp, hix, hq, hg, hib, hgb, hr, hsh, hx, hsb, hsp2]

/-! ### Bits that are turned -/
def bitN (e : List Nat) (q : Nat) : Bool := decide (e.getD (q / 8) 0 / 2 ^ (q % 8) % 2 = 1)
def cntB (e : List Nat) : Nat → Nat
  | 0 => 0
  | q + 1 => if bitN e q = true then cntB e q + 1 else cntB e q
theorem cntB_le (e : List Nat) : ∀ q, cntB e q ≤ q
  | 0 => Nat.le_refl 0
  | q + 1 => by
    have := cntB_le e q
    simp only [cntB]
    split <;> omega
theorem cntB_zero {e : List Nat} : ∀ n, cntB e n = 0 → ∀ q, q < n → bitN e q = false
  | 0, _, q, h => by omega
  | n + 1, h, q, hq => by
    simp only [cntB] at h
    by_cases hb : bitN e n = true
    · rw [if_pos hb] at h; omega
    · rw [if_neg hb] at h
      by_cases he : q = n
      · rw [he]; exact Bool.eq_false_iff.2 hb
      · exact cntB_zero n h q (by omega)
theorem cntB_one {e : List Nat} : ∀ n, cntB e n = 1 → ∃ q, q < n ∧ bitN e q = true ∧ ∀ r, r < n → r ≠ q → bitN e r = false
  | 0, h => by simp [cntB] at h
  | n + 1, h => by
    simp only [cntB] at h
    by_cases hb : bitN e n = true
    · rw [if_pos hb] at h
      have hz := cntB_zero (e := e) n (by omega)
      exact ⟨n, by omega, hb, fun r hr hne => hz r (by omega)⟩
    · rw [if_neg hb] at h
      obtain ⟨q, h1, h2, h3⟩ := cntB_one n h
      refine ⟨q, by omega, h2, fun r hr hne => ?_⟩
      by_cases he : r = n
      · rw [he]; exact Bool.eq_false_iff.2 hb
      · exact h3 r (by omega) hne
theorem byte_zero : ∀ b, b < 256 → (∀ k, k < 8 → decide (b / 2 ^ k % 2 = 1) = false) → b = 0 := by decide +kernel
theorem byte_one : ∀ b, b < 256 → ∀ k, k < 8 → (∀ j, j < 8 → decide (b / 2 ^ j % 2 = 1) = decide (j = k)) → b = 2 ^ k := by decide +kernel
theorem zero_of {e : List Nat} (h : Byte19 e) (hb : ∀ q, q < 152 → bitN e q = false) : e = List.replicate 19 0 := by
  have hl := h.len
  apply List.ext_getElem
  · rw [hl, List.length_replicate]
  · intro i h1 h2
    rw [List.getElem_replicate]
    have hg : e.getD i 0 = e[i] := by rw [List.getD_eq_getElem?_getD, List.getElem?_eq_getElem h1]; rfl
    rw [← hg]
    refine byte_zero _ (getD_lt h i) fun k hk => ?_
    have := hb (i * 8 + k) (by omega)
    unfold bitN at this
    rw [show (i * 8 + k) / 8 = i by omega, show (i * 8 + k) % 8 = k by omega] at this
    exact this
theorem unit_of {e : List Nat} (h : Byte19 e) {q : Nat} (hq : q < 152) (hb : bitN e q = true) (ho : ∀ r, r < 152 → r ≠ q → bitN e r = false) : e = unitN q := by
  have hl := h.len
  apply List.ext_getElem
  · rw [hl, (unitN_byte q).len]
  · intro i h1 h2
    have hg : e.getD i 0 = e[i] := by rw [List.getD_eq_getElem?_getD, List.getElem?_eq_getElem h1]; rfl
    have hu : (unitN q)[i]'(h2) = if q / 8 = i then 2 ^ (q % 8) else 0 := by
      show ((List.replicate 19 0).set (q / 8) (2 ^ (q % 8)))[i]'(by simp; omega) = _
      rw [List.getElem_set, List.getElem_replicate]
    rw [hu, ← hg]
    by_cases hi : q / 8 = i
    · rw [if_pos hi]
      refine byte_one _ (getD_lt h i) (q % 8) (by omega) fun k hk => ?_
      by_cases hkq : k = q % 8
      · rw [decide_eq_true hkq]
        unfold bitN at hb
        rw [hi] at hb
        rw [hkq]
        exact hb
      · rw [decide_eq_false hkq]
        have := ho (i * 8 + k) (by omega) (by omega)
        unfold bitN at this
        rw [show (i * 8 + k) / 8 = i by omega, show (i * 8 + k) % 8 = k by omega] at this
        exact this
    · rw [if_neg hi]
      refine byte_zero _ (getD_lt h i) fun k hk => ?_
      have := ho (i * 8 + k) (by omega) (by omega)
      unfold bitN at this
      rw [show (i * 8 + k) / 8 = i by omega, show (i * 8 + k) % 8 = k by omega] at this
      exact this
theorem zeros_byte : Byte19 (List.replicate 19 0) := ⟨by simp, fun x hx => by rw [List.eq_of_mem_replicate hx]; omega⟩
theorem xor_zeros {l : List Nat} (h : Byte19 l) : xorL l (List.replicate 19 0) = l := by
  have hl := h.len
  apply List.ext_getElem
  · rw [(xorL_byte h zeros_byte).len, hl]
  · intro i h1 h2
    have hz : (xorL l (List.replicate 19 0))[i] = l[i] ^^^ (List.replicate 19 0)[i]'(by simp; omega) := by
      show (List.zipWith (· ^^^ ·) l (List.replicate 19 0))[i]'(h1) = _
      exact List.getElem_zipWith
    rw [hz, List.getElem_replicate, Nat.xor_zero]

end Go.Proofs.Ytihchahfnhoapaa
